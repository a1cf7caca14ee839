
/- A run of code by values alone, which Lean's kernel can compute: what it gives, the model gives in every world. Conditions: those of each theorem. -/
import Derived.Test.YtlihkahbjlnbbaaGreatH
import Derived.Deep.AppendSrc
import Derived.Laws.Strings2
import Derived.Laws.Slices
import Derived.Laws.BytesString
import Derived.Laws.IdiomStrings
import Derived.Lib.ConvBytes
import Derived.Laws.StructEq
import Derived.LoopN
import Derived.Recover
set_option linter.unusedVariables false
set_option linter.unusedSimpArgs false
namespace Go.E
open Go Go.V
inductive GC where
  | kn (c:Nat)
  | op (es:Nat)
inductive Ty where
  | int (k:IntKind)
  | bool
  | str
  | sl (t:Ty)
  | unit
  | pair (a b:Ty)
@[reducible] def Ty.den : Ty → Type
  | .int _=>Int
  | .bool=>Bool
  | .str=>List UInt8
  | .sl t=>List t.den
  | .unit=>Unit
  | .pair a b=>a.den×b.den
def Ty.sz:Ty→Nat
  | .unit=>0
  | .pair a b=>a.sz+b.sz
  | _=>1
inductive GV where
  | bool (b:Bool)
  | int (k:IntKind) (n:Int)
  | str (s:List UInt8)
  | nilp
  | ptr (b off:Nat)
  | nils
  | sl (b off len:Nat) (c:GC)
  | sle
  | nilm
  | map (b:Nat)
  | nilf
  | func (f:FuncId) (a c:List GV)
  | agg (l:List GV)
  | tup (l:List GV)
  | ro (t:Ty) (xs:List t.den)
  | rop (l:List GV) (off:Nat)
  | own (b:Nat)
  | elp (b:Nat) (t:Ty) (i off:Nat) (x:t.den)
def GV.ats:GV→List GV
  | .agg l=>l
  | v=>[v]
inductive GB where
  | cells (l:List GV)
  | map (es:List (GV×GV))
inductive Tr (α:Type) where
  | lf
  | nd (o:Option α) (l r:Tr α)
def Tr.get {α:Type}:Tr α→Nat→Option α
  | .lf,_=>none
  | .nd o l r,k=>match Nat.beq k 0 with
    | true=>o
    | false=>match Nat.beq (k%2) 1 with
      | true=>l.get (k / 2)
      | false=>r.get (k / 2-1)
def Tr.set {α:Type}:Nat→Tr α→Nat→Option α→Tr α
  | 0,t,_,_=>t
  | n+1,.lf,k,v=>match Nat.beq k 0 with
    | true=>.nd v .lf .lf
    | false=>match Nat.beq (k%2) 1 with
      | true=>.nd none (Tr.set n .lf (k / 2) v) .lf
      | false=>.nd none .lf (Tr.set n .lf (k / 2-1) v)
  | n+1,.nd o l r,k,v=>match Nat.beq k 0 with
    | true=>.nd v l r
    | false=>match Nat.beq (k%2) 1 with
      | true=>.nd o (Tr.set n l (k / 2) v) r
      | false=>.nd o l (Tr.set n r (k / 2-1) v)
abbrev GF:=Tr GV
structure OwB where
  t:Ty
  T:TypeId
  xs:List t.den
  mu:Bool
structure St where
  h:Tr GB
  nx:Nat
  df:List FuncId
  ow:Tr OwB
  lg:List Nat
def Ma1:Value→Option GV
  | .bool b=>some (.bool b)
  | .int k n=>some (.int k n)
  | .string s=>some (.str s.data.toList)
  | .pointer none=>some .nilp
  | .slice none 0 0=>some .nils
  | .map none=>some .nilm
  | .nilFunc=>some .nilf
  | .func (.func f) ⟨[]⟩ ⟨[]⟩=>some (.func f [] [])
  | _=>none
def M3X:List Value→Option (List GV)
  | []=>some []
  | v::l=>match Ma1 v with
    | some g=>match M3X l with
      | some r=>some (g::r)
      | none=>none
    | none=>none
def M7p:Value→Option GV
  | .agg cs=>(M3X cs.toList).map .agg
  | .tuple cs=>(M3X cs.toList).map .tup
  | v=>Ma1 v
def Z7 (f:GF):Operand→Option GV
  | .tmp t=>f.get t
  | .const v=>M7p v
  | .func g=>some (.func g [] [])
  | .global _=>none
def M7X (f:GF):List Operand→Option (List GV)
  | []=>some []
  | x::l=>match Z7 f x with
    | some g=>match M7X f l with
      | some r=>some (g::r)
      | none=>none
    | none=>none
def M8P (f:GF):List (Nat×Operand)→Option (List (Nat×GV))
  | []=>some []
  | (i,x)::l=>match Z7 f x with
    | some g=>match M8P f l with
      | some r=>some ((i,g)::r)
      | none=>none
    | none=>none
def Xl (P:Program) (t:TypeId):Option Nat:=(P.info? t).map (·.size)
def Mb7 (P:Program) (t:TypeId):Option Bool:=match P.underlying t with
  | some (.struct _)=>some true
  | some (.array ..)=>some true
  | some _=>some false
  | none=>none
def elB (P:Program) (t:TypeId):Option (TypeId×Nat):=match P.underlying t with
  | some (.slice e)=>match P.info? e with
    | some i=>match Nat.ble i.bytes 4096 with
      | true=>some (e,i.size)
      | false=>none
    | none=>none
  | _=>none
def XD (P:Program) (t:TypeId):Option (List GV):=match P.info? t with
  | some i=>match i.zero with
    | some z=>M3X z.cells.toList
    | none=>none
  | none=>none
def cut (l:List GV) (off n:Nat):Option (List GV):=let r:=(l.drop off).take n; if r.length=n then some r else none
def WB (S:St) (b off n:Nat):Option (List GV):=match S.h.get b with
  | some (.cells l)=>cut l off n
  | _=>none
def part (P:Program) (t:TypeId) (l:List GV) (off:Nat):Option GV:=match Mb7 P t with
  | some true=>match Xl P t with
    | some n=>(cut l off n).map .agg
    | none=>none
  | some false=>l[off]?
  | none=>none
def M5A (P:Program) (t:TypeId) (S:St) (b off:Nat):Option GV:=match S.h.get b with
  | some (.cells l)=>part P t l off
  | _=>none
def lim:Nat:=4194303
def M3Y:Nat:=22
def St.put (S:St) (b:Nat) (g:Option GB):Option St:=match Nat.blt b lim with
  | true=>some ⟨S.h.set M3Y b g,S.nx,S.df,S.ow,S.lg⟩
  | false=>none
def XE:GV→Bool
  | .agg _=>false
  | .tup _=>false
  | _=>true
def over (l:List GV) (off:Nat) (vs:List GV):Option (List GV):=
  if off+vs.length≤l.length∧vs.all XE=true then some (l.take off++(vs++l.drop (off+vs.length))) else none
def M0w (S:St) (b off:Nat) (vs:List GV):Option St:=match S.h.get b with
  | some (.cells l)=>match over l off vs with
    | some g=>S.put b (some (.cells g))
    | none=>none
  | _=>none
def newB (S:St) (name:Nat) (vs:List GV):Option St:=if vs.all XE=true then S.put name (some (.cells vs)) else none
def M09 (g:Nat→Option (Nat×Nat)):List GV→List (Nat×GV)→Option (List GV)
  | cells,[]=>some cells
  | cells,(i,v)::rest=>match g i with
    | none=>none
    | some (off,size)=>match Nat.beq v.ats.length size with
      | true=>match over cells off v.ats with
        | some c=>M09 g c rest
        | none=>none
      | false=>none
def M1a (P:Program):List Field→Option (List (Nat×Nat))
  | []=>some []
  | f::l=>match Xl P f.type with
    | some n=>match M1a P l with
      | some r=>some ((f.offset,n)::r)
      | none=>none
    | none=>none
def rep (n:Nat) (z:List GV):List GV:=match n with
  | 0=>[]
  | n+1=>z++rep n z
def M8Q:Value→Option GV
  | .bool b=>some (.bool b)
  | .int k n=>some (.int k n)
  | _=>none
def M6C (op:BinOp) (a b:List UInt8):Option GV:=match op with
  | .add=>if a.length+b.length≤4294967296 then some (.str (a++b)) else none
  | .eql=>some (.bool (a==b))
  | .neq=>some (.bool (!(a==b)))
  | .lss=>some (.bool (Op.bytesLess a b))
  | .leq=>some (.bool (Op.bytesLess a b||a==b))
  | .gtr=>some (.bool (!(Op.bytesLess a b||a==b)))
  | .geq=>some (.bool (!(Op.bytesLess a b)))
  | _=>none
def Ma2 (P:Program) (rec_:TypeId→GV→GV→Option Bool) (xs ys:List GV):List Field→Option Bool
  | []=>some true
  | f :: l => if f.name = "_" then none else match part P f.type xs f.offset, part P f.type ys f.offset with
    | some x,some y=>match rec_ f.type x y with
      | some true=>Ma2 P rec_ xs ys l
      | r=>r
    | _,_=>none
def gEq (P:Program):Nat→TypeId→GV→GV→Option Bool
  | 0,_,_,_=>none
  | d+1,t,x,y=>match P.underlying t,x,y with
    | some .bool,.bool a,.bool b=>some (a==b)
    | some (.int _),.int k a,.int k' b=>if k=k' then some (a==b) else none
    | some .string,.str a,.str b=>some (a==b)
    | some (.pointer _),.nilp,.nilp=>some true
    | some (.pointer _),.nilp,.ptr _ _=>some false
    | some (.pointer _),.ptr _ _,.nilp=>some false
    | some (.slice _),.nils,.nils=>some true
    | some (.slice _),.nils,.sl ..=>some false
    | some (.slice _),.sl ..,.nils=>some false
    | some (.slice _),.nils,.sle=>some false
    | some (.slice _),.sle,.nils=>some false
    | some (.map ..),.nilm,.nilm=>some true
    | some (.map ..),.nilm,.map _=>some false
    | some (.map ..),.map _,.nilm=>some false
    | some (.struct fs),.agg xs,.agg ys=>if P.stoodInHeld t=true∨P.eqGuardType P.depth t=true then none else Ma2 P (gEq P d) xs ys fs.toList
    | _,_,_=>none
def Mb9 (P:Program) (op:BinOp) (t:TypeId) (x y:GV):Option GV:=match x,y with
  | .int k a,.int k' b=>match M2s op (.int k a) (.int k' b) with
    | some v=>M8Q v
    | none=>none
  | .str a,.str b=>M6C op a b
  | x,y=>match op with
    | .eql=>(gEq P 20 t x y).map .bool
    | .neq=>(gEq P 20 t x y).map fun b=>.bool (!b)
    | _=>none
def gUn (op:UnOp) (x:GV):Option GV:=match op,x with
  | .not,.bool b=>some (.bool (!b))
  | .neg,.int k n=>some (.int k (k.wrap (0-n)))
  | _,_=>none
def byteOf:GV→Option UInt8
  | .int .u8 n=>some (UInt8.ofNat n.toNat)
  | _=>none
def bytesOf:List GV→Option (List UInt8)
  | []=>some []
  | g::l=>match byteOf g with
    | some b=>match bytesOf l with
      | some r=>some (b::r)
      | none=>none
    | none=>none
def M3Z (P:Program) (name:Nat) (s d:TypeId) (x:GV) (S:St):Option (GV×St):=match P.underlying s,P.underlying d,x with
  | some (.int _),some (.int k),.int _ n=>some (.int k (k.wrap n),S)
  | some .string,some .string,.str l=>some (.str l,S)
  | some .string,some (.slice e),.str l=>match P.underlying e with
    | some (.int .u8)=>if l.length≤4294967296 then (newB S name (l.map fun b=>.int .u8 b.toNat)).map fun S=>(.sl name 0 l.length (.op 1),S) else none
    | _=>none
  | some (.slice e),some .string,.nils=>match P.underlying e with
    | some (.int .u8)=>some (.str [],S)
    | _=>none
  | some (.slice e),some .string,.sl b off n _=>match P.underlying e with
    | some (.int .u8)=>match WB S b off n with
      | some l=>(bytesOf l).map fun l=>(.str l,S)
      | none=>none
    | _=>none
  | _,_,_=>none
def Vc (x:Option GV) (d m:Nat):Option Nat:=match x with
  | none=>if d≤m then some d else none
  | some (.int _ n)=>if 0≤n∧n≤m then some n.toNat else none
  | _=>none
def M6D (P:Program) (t:TypeId) (S:St) (x:GV) (q g j:Option GV):Option GV:=match P.underlying t,x with
  | some .string,.str s=>match j with
    | some _=>none
    | none=>match Vc g s.length s.length with
      | some h=>match Vc q 0 h with
        | some l=>some (.str ((s.drop l).take (h-l)))
        | none=>none
      | none=>none
  | some (.slice e),.nils=>match Vc j 0 0,Vc g 0 0,Vc q 0 0 with
    | some _,some _,some _=>match j,g with
      | some _,none=>none
      | _,_=>match Xl P e with
        | some _=>some .nils
        | none=>none
    | _,_,_=>none
  | some (.slice e),.sl b off len (.kn c)=>match Xl P e with
    | none=>none
    | some es=>match j with
      | none=>match Vc g len c with
        | none=>none
        | some h=>match Vc q 0 h with
          | none=>none
          | some l=>some (.sl b (if c=l then off else off+l*es) (h-l) (.kn (c-l)))
      | some _=>none
  | some (.slice e),.sl b off len (.op es)=>match Xl P e,S.h.get b with
    | some es',some (.cells cs)=>match Nat.beq es es',Nat.blt 0 es with
      | true,true=>match j with
        | some _=>(match g with
          | none=>none
          | some _=>match Vc j 0 ((cs.length-off) / es) with
            | none=>none
            | some m=>match Vc g 0 m with
              | none=>none
              | some h=>match Vc q 0 h with
                | none=>none
                | some l=>some (.sl b (if m=l then off else off+l*es) (h-l) (.kn (m-l))))
        | none=>match Vc g len ((cs.length-off) / es) with
          | none=>none
          | some h=>match Vc q 0 h with
            | none=>none
            | some l=>if l=0∨l<(cs.length-off) / es then some (.sl b (off+l*es) (h-l) (.op es)) else if h=l then some .sle else none
      | _,_=>none
    | _,_=>none
  | _,_=>none
def Yo (P:Program) (s:TypeId) (f:Nat):Option (Nat×TypeId):=match P.underlying s with
  | some (.struct fs)=>match fs.toList[f]? with
    | some f=>some (f.offset,f.type)
    | none=>none
  | _=>none
def M8R (i:GV) (len:Nat):Option Nat:=match i with
  | .int _ n=>if 0≤n∧n<len then some n.toNat else none
  | _=>none
def M0x (P:Program) (t:TypeId) (x i:GV):Option GV:=match P.underlying t,x with
  | some (.slice e),.sl b off len _=>match M8R i len,Xl P e with
    | some k,some es=>some (.ptr b (off+k*es))
    | _,_=>none
  | _,_=>none
def M6E (P:Program) (t:TypeId) (x i:GV):Option GV:=match P.underlying t,x with
  | some (.array n e),.agg l=>match M8R i n,Xl P e with
    | some k,some es=>part P e l (k*es)
    | _,_=>none
  | some .string,.str s=>match M8R i s.length with
    | some k=>match s[k]? with
      | some b=>some (.int .u8 b.toNat)
      | none=>none
    | none=>none
  | _,_=>none
def M8S:TypeDesc→GV→GV→Option Bool
  | .int _,.int k a,.int k' b=>if k=k' then some (a==b) else none
  | .string,.str a,.str b=>some (a==b)
  | .bool,.bool a,.bool b=>some (a==b)
  | _,_,_=>none
def M40 (d:TypeDesc) (k:GV):List (GV×GV)→Nat→Option (Option (Nat×GV))
  | [],_=>some none
  | (a,v)::es,i=>match M8S d k a with
    | some true=>some (some (i,v))
    | some false=>M40 d k es (i+1)
    | none=>none
def Mba:TypeDesc→Bool
  | .int _=>true
  | .string=>true
  | .bool=>true
  | _=>false
def M8T (S:St):GV→Option (List (GV×GV))
  | .nilm=>some []
  | .map b=>match S.h.get b with
    | some (.map es)=>some es
    | _=>none
  | _=>none
def okG (ok:Bool) (v:GV) (b:Bool):GV:=match ok with
  | true=>.tup [v,.bool b]
  | false=>v
def M4C (P:Program) (t:TypeId) (S:St) (x i:GV) (ok:Bool):Option GV:=match P.underlying t with
  | some (.map kt et)=>match P.underlying kt with
    | some d=>match Mba d,M8T S x with
      | true,some es=>match M40 d i es 0 with
        | some (some (_,v))=>some (okG ok v true)
        | some none=>match P.info? et with
          | some g=>match g.zero with
            | some z=>match M7p z with
              | some v=>some (okG ok v false)
              | none=>none
            | none=>none
          | none=>none
        | none=>none
      | _,_=>none
    | none=>none
  | _=>none
def setAt:List (GV×GV)→Nat→GV→GV→List (GV×GV)
  | [],_,_,_=>[]
  | _::es,0,k,v=>(k,v)::es
  | e::es,n+1,k,v=>e::setAt es n k v
def M1b (P:Program) (t:TypeId) (S:St) (m k v:GV):Option St:=match P.underlying t,m with
  | some (.map kt et),.map b=>match P.underlying kt,S.h.get b with
    | some d,some (.map es)=>match Mba d,M40 d k es 0 with
      | true,some (some (i,_))=>S.put b (some (.map (setAt es i k v)))
      | true,some none=>S.put b (some (.map (es++[(k,v)])))
      | _,_=>none
    | _,_=>none
  | _,_=>none
def M8U (S:St) (es:Nat):GV→Option (Nat×List GV)
  | .nils=>some (0,[])
  | .sle=>some (0,[])
  | .sl b off n _=>(WB S b off (n*es)).map fun l=>(n,l)
  | .str s=>some (s.length,s.map fun b=>.int .u8 b.toNat)
  | _=>none
def MaU:GV→Bool
  | .str _=>true
  | _=>false
def MbG:TypeDesc→Bool
  | .slice _=>true
  | .string=>true
  | _=>false
def YV (P:Program) (name:Nat) (t g:TypeId) (S:St) (s x:GV):Option (GV×St):=match elB P t,P.underlying g with
  | some (e,es),some d2=>match MbG d2&&(!(MaU x)||Nat.beq es 1)&&Nat.blt 0 es,XD P e,M8U S es x with
    | true,some z,some (n,new)=>match Nat.ble n 1000000&&Nat.beq z.length es with
      | false=>none
      | true=>match Nat.beq n 0,s with
        | true,.nils=>some (.nils,S)
        | true,.sl b off len c=>some (.sl b off len c,S)
        | true,_=>none
        | false,.nils=>(newB S name new).map fun S=>(.sl name 0 n (.op es),S)
        | false,.sl b off len (.kn c)=>match Nat.blt c (len+n)&&Nat.ble len 1000000 with
          | true=>match WB S b off (len*es) with
            | some old=>(newB S name (old++new)).map fun S=>(.sl name 0 (len+n) (.op es),S)
            | none=>none
          | false=>none
        | false,.sl b off len (.op es')=>match Nat.beq es es'&&Nat.ble len 1000000,WB S b off (len*es) with
          | true,some old=>match S.put b none with
            | some S=>(newB S name (old++new)).map fun S=>(.sl name 0 (len+n) (.op es),S)
            | none=>none
          | _,_=>none
        | false,_=>none
    | _,_,_=>none
  | _,_=>none
def M1O (P:Program) (t:TypeId) (S:St) (x:GV):Option (GV×St):=match elB P t,x with
  | some (e,es),.sl b off (len+1) _=>match XD P e with
    | some z=>if z.length=es then (M0w S b off (rep (len+1) z)).map fun S=>(.tup [],S) else none
    | none=>none
  | some _,.sl b off 0 _=>some (.tup [],S)
  | some _,.sle=>some (.tup [],S)
  | some _,.nils=>some (.tup [],S)
  | _,_=>none
def M7Y:GV→List GV→Option GV
  | v,[]=>some v
  | .int k a,.int _ b::l=>M7Y (.int k (if b>a then b else a)) l
  | _,_=>none
def Mbb (P:Program) (t:TypeId) (S:St) (x:GV):Option Nat:=match P.underlying t,x with
  | some .string,.str s=>some s.length
  | some (.slice _),.nils=>some 0
  | some (.slice _),.sle=>some 0
  | some (.slice _),.sl _ _ n _=>some n
  | some (.map ..),.nilm=>some 0
  | some (.map ..),.map b=>match S.h.get b with
    | some (.map es)=>some es.length
    | _=>none
  | _,_=>none
def M3e (P:Program) (name:Nat) (b:Builtin) (ts:List TypeId) (args:List GV) (S:St):Option (GV×St):=match b,ts,args with
  | .len,[t],[x]=>(Mbb P t S x).map fun (n:Nat)=>(.int .i64 n,S)
  | .append,[t,t2],[s,x]=>YV P name t t2 S s x
  | .clear,[t],[x]=>M1O P t S x
  | .max,_,x::l=>(M7Y x l).map fun v=>(v,S)
  | _,_,_=>none
abbrev Cl:=FuncId→List GV→St→Option (GV×St)
def Mbc:GV→Bool
  | .ptr ..=>false
  | .func ..=>false
  | _=>true
def Ma3 (f:GF):Option Operand→Option (Option GV)
  | none=>some none
  | some x=>(Z7 f x).map some
def gOp (P:Program) (call:Cl) (name:Nat) (o:Oper) (f:GF) (S:St):Option (GV×St):=match o.op with
  | .move x=>(Z7 f x).map fun v=>(v,S)
  | .assign x=>(Z7 f x).map fun v=>(v,S)
  | .pick c a b=>match Z7 f c with
    | some (.bool true)=>(Z7 f a).map fun v=>(v,S)
    | some (.bool false)=>(Z7 f b).map fun v=>(v,S)
    | _=>none
  | .alloc t=>match XD P t with
    | some z=>(newB S name z).map fun S=>(.ptr name 0,S)
    | none=>none
  | .box _ x=>match Z7 f x with
    | some v=>(newB S name v.ats).map fun S=>(.ptr name 0,S)
    | none=>none
  | .build t u=>match XD P t,M8P f u.toList,P.underlying t with
    | some z,some ps,some (.struct fs)=>match M1a P fs.toList with
      | some pl=>(M09 (fun i=>pl[i]?) z ps).map fun c=>(.agg c,S)
      | none=>none
    | some z,some ps,some (.array _ e)=>match Xl P e with
      | some n=>(M09 (fun i=>some (i*n,n)) z ps).map fun c=>(.agg c,S)
      | none=>none
    | _,_,_=>none
  | .buildSlice t len u=>match elB P t,M8P f u.toList with
    | some (e,n),some ps=>match XD P e with
      | some z=>if len*n≤65536∧z.length=n then (match M09 (fun i=>some (i*n,n)) (rep len z) ps with
        | some c=>(newB S name c).map fun S=>(.sl name 0 len (.kn len),S)
        | none=>none) else none
      | none=>none
    | _,_=>none
  | .load t a=>match Z7 f a with
    | some (.ptr b off)=>(M5A P t S b off).map fun v=>(v,S)
    | _=>none
  | .store t a x=>match Z7 f a,Z7 f x,Xl P t with
    | some (.ptr b off),some v,some n=>match Nat.beq v.ats.length n with
      | true=>(M0w S b off v.ats).map fun S=>(.tup [],S)
      | false=>none
    | _,_,_=>none
  | .nilCheck x=>match Z7 f x with
    | some v=>match Mbc v with
      | false=>some (v,S)
      | true=>none
    | none=>none
  | .binOp op t x y _=>match Z7 f x,Z7 f y with
    | some x,some y=>(Mb9 P op t x y).map fun v=>(v,S)
    | _,_=>none
  | .unOp op _ x=>match Z7 f x with
    | some x=>(gUn op x).map fun v=>(v,S)
    | none=>none
  | .convert s d x=>match Z7 f x with
    | some x=>M3Z P name s d x S
    | none=>none
  | .makeFunc (.func g) a c=>match M7X f a.toList,M7X f c.toList with
    | some a,some c=>some (.func g a c,S)
    | _,_=>none
  | .makeMap t none=>(S.put name (some (.map []))).map fun S=>(.map name,S)
  | .makeSlice t l c=>match elB P t,Z7 f l,Z7 f c with
    | some (e,n),some (.int _ l),some (.int _ c)=>match XD P e with
      | some z=>if 0≤l∧l≤c∧c≤65536∧z.length=n then (newB S name (rep c.toNat z)).map fun S=>(.sl name 0 l.toNat (.kn c.toNat),S) else none
      | none=>none
    | _,_,_=>none
  | .slice t x q j r=>match Z7 f x,Ma3 f q,Ma3 f j,Ma3 f r with
    | some x,some q,some j,some r=>(M6D P t S x q j r).map fun v=>(v,S)
    | _,_,_,_=>none
  | .fieldAddr s x i=>match Z7 f x,Yo P s i with
    | some (.ptr b off),some (o,t)=>match Xl P t with
      | some (_+1)=>some (.ptr b (off+o),S)
      | _=>none
    | _,_=>none
  | .field s x i=>match Z7 f x,Yo P s i with
    | some (.agg l),some (o,t)=>(part P t l o).map fun v=>(v,S)
    | _,_=>none
  | .indexAddr t x i=>match Z7 f x,Z7 f i with
    | some x,some i=>(M0x P t x i).map fun v=>(v,S)
    | _,_=>none
  | .index t x i=>match Z7 f x,Z7 f i with
    | some x,some i=>(M6E P t x i).map fun v=>(v,S)
    | _,_=>none
  | .lookup t x i ok=>match Z7 f x,Z7 f i with
    | some x,some i=>(M4C P t S x i ok).map fun v=>(v,S)
    | _,_=>none
  | .mapUpdate t m k v=>match Z7 f m,Z7 f k,Z7 f v with
    | some m,some k,some v=>(M1b P t S m k v).map fun S=>(.tup [],S)
    | _,_,_=>none
  | .extract x i=>match Z7 f x with
    | some (.tup l)=>(l[i]?).map fun v=>(v,S)
    | _=>none
  | .defer c=>match c.callee,c.args.toList with
    | .value g,[]=>match Z7 f g with
      | some (.func g _ _)=>some (.tup [],⟨S.h,S.nx,g::S.df,S.ow,S.lg⟩)
      | _=>none
    | _,_=>none
  | .call c=>match M7X f c.args.toList with
    | some args=>match c.callee with
      | .value g=>match Z7 f g with
        | some (.func g a e)=>call g (a++(args++e)) S
        | _=>none
      | .builtin b=>M3e P name b c.argTypes.toList args S
      | _=>none
    | none=>none
  | _=>none
def M3f (ops:List Oper) (o:Oper) (f:GF):Option Bool:=match o.guard with
  | none=>some true
  | some (j,want)=>match ops[j]? with
    | some p=>match p.dst with
      | some d=>match f.get d with
        | some (.bool b)=>some (b==want)
        | some _=>some false
        | none=>none
      | none=>none
    | none=>none
def M6F (n:Nat) (f:GF) (d:Option Tmp) (v:GV):Option GF:=match d with
  | none=>some f
  | some d=>match Nat.blt d n,Nat.blt d lim with
    | true,true=>some (f.set M3Y d (some v))
    | _,_=>none
structure GO where
  run:Nat→Oper→GF→St→Option (GV×St)
  fl:Oper→GF→Bool
def stepG (op:GO) (n:Nat) (ops:List Oper) (base i:Nat) (o:Oper) (f:GF) (S:St):Option (GF×St):=match M3f ops o f with
  | some true=>match op.run (base+i) o f S with
    | some (v,S)=>(M6F n f o.dst v).map fun f=>(f,S)
    | none=>none
  | some false=>(M6F n f o.dst (.tup [])).map fun f=>(f,S)
  | none=>none
def M7Z (op:GO) (n:Nat) (ops:List Oper) (base:Nat):List Oper→Nat→GF→St→Option (GF×St)
  | [],_,f,S=>some (f,S)
  | o::l,i,f,S=>match stepG op n ops base i o f S with
    | some (f,S)=>M7Z op n ops base l (i+1) f S
    | none=>none
inductive GX where
  | nrm
  | exit (id:Nat)
  | ret
def M41 (body:GF→St→Option (GX×GF×St)):Nat→GF→St→Option (GX×GF×St)
  | 0,_,_=>none
  | L+1,f,S=>match body f S with
    | some (.nrm,f,S)=>M41 body L f S
    | r=>r
def gcb:GC→GC→Bool
  | .kn c,.kn d=>Nat.beq c d
  | .op c,.op d=>Nat.beq c d
  | _,_=>false
mutual
def GV.beq:GV→GV→Bool
  | .bool a,.bool b=>a==b
  | .int k a,.int k' b=>match decide (k=k') with
    | true=>decide (a=b)
    | false=>false
  | .str a,.str b=>decide (a=b)
  | .nilp,.nilp=>true
  | .ptr a i,.ptr b j=>Nat.beq a b&&Nat.beq i j
  | .nils,.nils=>true
  | .sle,.sle=>true
  | .sl a i l c,.sl b j m d=>Nat.beq a b&&Nat.beq i j&&Nat.beq l m&&gcb c d
  | .nilm,.nilm=>true
  | .map a,.map b=>Nat.beq a b
  | .nilf,.nilf=>true
  | .func f a c,.func g b d=>Nat.beq f g&&M5B a b&&M5B c d
  | .agg a,.agg b=>M5B a b
  | .tup a,.tup b=>M5B a b
  | _,_=>false
def M5B:List GV→List GV→Bool
  | [],[]=>true
  | x::l,y::m=>GV.beq x y&&M5B l m
  | _,_=>false
end
def MbH:Option GB→Option GB→Bool
  | none,none=>true
  | some (.cells a),some (.cells b)=>M5B a b
  | some (.map []),some (.map [])=>true
  | _,_=>false
def M8V {α:Type}:Option α→Bool
  | none=>true
  | some _=>false
def M1P:Op→Bool
  | .call c=>match c.callee with
    | .builtin .len | .builtin .cap | .builtin .min | .builtin .max=>true
    | _=>false
  | .store .. | .mapUpdate .. | .insert .. | .defer ..=>false
  | _=>true
def M3g (ops:Array Oper) (i:Nat) (o:Oper):Bool:=match o.dst with
  | none=>true
  | some d=>(List.range ops.size).all fun j=>match ops[j]? with
    | none=>true
    | some p=>!((p.looksAt ops).any (Nat.beq d))||(!(Nat.beq j i)&&M3H ops 8 j i)
def Ma4 (op:GO) (ops:Array Oper) (i:Nat) (o:Oper) (f:GF):Bool:=M3g ops i o&&(op.fl o f||(match M3f ops.toList o f with | some false=>true | _=>false))
def W1 (l:List Nat) (i:Nat):Bool:=l.any (Nat.beq i)
def X8 (o:Oper) (done:List Nat):Bool:=o.after.toList.all fun e=>!(Region.binds .any e)||W1 done e.on
def M6G (op:GO) (ops:Array Oper) (base:Nat) (f:GF) (S:St) (i:Nat):Bool:=match ops[i]? with
  | none=>false
  | some o=>M3g ops i o&&match M3f ops.toList o f with
    | some true=>op.fl o f&&(match op.run (base+i) o f S with
      | some (v,S')=>MbH (S'.h.get (base+i)) (S.h.get (base+i))&&M8V (S'.ow.get (base+i))&&M8V (S.ow.get (base+i))&&(match o.dst with
        | none=>true
        | some d=>match f.get d with
          | some u=>GV.beq v u
          | none=>false)
      | none=>false)
    | some false=>(match o.dst with
      | none=>true
      | some d=>match f.get d with
        | some u=>GV.beq (.tup []) u
        | none=>false)
    | none=>false
def M6H (op:GO) (n:Nat) (ops:Array Oper) (base:Nat):List (Nat×Oper)→List Nat→List Nat→GF→St→Option (List (Nat×Oper)×List Nat×List Nat×GF×St)
  | [],done,loose,f,S=>some ([],done,loose,f,S)
  | (i,o)::l,done,loose,f,S=>match X8 o done&&Ma4 op ops i o f with
    | true=>match stepG op n ops.toList base i o f S with
      | some (f,S)=>M6H op n ops base l (i::done) (i::loose) f S
      | none=>none
    | false=>match M6H op n ops base l done loose f S with
      | some (rem,r)=>some ((i,o)::rem,r)
      | none=>none
def Ma5 (op:GO) (n:Nat) (ops:Array Oper) (base:Nat):Nat→List (Nat×Oper)→List Nat→List Nat→GF→St→Option (GF×St)
  | 0,_,_,_,_,_=>none
  | k+1,rem,done,loose,f,S=>match M6H op n ops base rem done loose f S with
    | some (rem,done,loose,f,S)=>match loose.all (M6G op ops base f S) with
      | false=>none
      | true=>match rem.filter (fun p=>X8 p.2 done) with
        | []=>match rem with
          | []=>some (f,S)
          | _=>none
        | [(m,o)]=>match stepG op n ops.toList base m o f S with
          | some (f,S)=>Ma5 op n ops base k (rem.filter fun p=>!(Nat.beq p.1 m)) (m::done) (loose.filter fun i=>!(M3H ops 8 m i)) f S
          | none=>none
        | _=>none
    | none=>none
def T8:List Oper→Nat→List (Nat×Oper)
  | [],_=>[]
  | o::l,i=>(i,o)::T8 l (i+1)
def M5C (ops:Array Oper):Bool:=(List.range ops.size).all fun i=>match ops[i]? with
  | none=>true
  | some o=>o.after.toList.all fun e=>!(Region.binds .any e)||Nat.blt e.on i
def gC (op:GO) (L n:Nat):Code→GF→St→Option (GX×GF×St)
  | .skip,f,S=>some (.nrm,f,S)
  | .label _,f,S=>some (.nrm,f,S)
  | .ret,f,S=>some (.ret,f,S)
  | .exit id,f,S=>some (.exit id,f,S)
  | .seq a b,f,S=>match gC op L n a f S with
    | some (.nrm,f,S)=>gC op L n b f S
    | r=>r
  | .cond c x y,f,S=>match Z7 f c with
    | some (.bool true)=>gC op L n x f S
    | some (.bool false)=>gC op L n y f S
    | _=>none
  | .block id c,f,S=>match gC op L n c f S with
    | some (.exit id',f,S)=>match Nat.beq id' id with
      | true=>some (.nrm,f,S)
      | false=>some (.exit id',f,S)
    | r=>r
  | .loop c,f,S=>M41 (gC op L n c) L f S
  | .region _ ops false,f,S=>match M7Z op n ops.toList S.nx ops.toList 0 f ⟨S.h,S.nx+ops.size,S.df,S.ow,S.lg⟩ with
    | some (f,S)=>some (.nrm,f,S)
    | none=>none
  | .region _ ops true,f,S=>match M5C ops&&M05 n ops.toList with
    | true=>match Ma5 op n ops S.nx (ops.size+1) (T8 ops.toList 0) [] [] f ⟨S.h,S.nx+ops.size,S.df,S.ow,S.lg⟩ with
      | some (f,S)=>some (.nrm,f,S)
      | none=>none
    | false=>none
  | _,_,_=>none
def M42:List GV→Nat→GF→GF
  | [],_,f=>f
  | v::l,i,f=>M42 l (i+1) (f.set M3Y i (some v))
def M6I (P:Program) (f:GF) (S:St):List ResultVar→Option (List GV)
  | []=>some []
  | .tmp t::l=>match f.get t with
    | some v=>match M6I P f S l with
      | some r=>some (v::r)
      | none=>none
    | none=>none
  | .cell a t::l=>match f.get a with
    | some (.ptr b off)=>match M5A P t S b off with
      | some v=>match M6I P f S l with
        | some r=>some (v::r)
        | none=>none
      | none=>none
    | _=>none
def M7q:List GV→GV
  | [v]=>v
  | vs=>.tup vs
def M5D (P:Program) (g:FuncId):Bool:=match P.funcs[g]? with
  | some fn=>match fn.results.toList,fn.body with
    | [],some (.seq (.region _ ⟨[o,q]⟩ false) (.cond (.tmp t) _ .skip))=>match o.guard,q.guard,o.op,q.op,o.dst,q.dst with
      | none,none,.call ⟨.builtin .recover,⟨[]⟩,_⟩,.binOp .neq ty (.tmp d) (.const .nilIface) _,some d',some t'=>
        Nat.beq d d'&&Nat.beq t t'&&Nat.blt d fn.ntmps&&Nat.blt t fn.ntmps&&(match P.underlying ty with | some (.interface _)=>true | _=>false)
      | _,_,_,_,_,_=>false
    | _,_=>false
  | none=>false
def Ma6 (P:Program) (L:Nat):Nat→Cl
  | 0,_,_,_=>none
  | k+1,g,args,S=>match P.funcs[g]? with
    | none=>none
    | some fn=>match fn.body with
      | none=>none
      | some c=>match Nat.ble args.length fn.ntmps&&Nat.ble args.length 1000 with
        | false=>none
        | true=>match gC ⟨gOp P (Ma6 P L k),fun o _=>M1P o.op⟩ L fn.ntmps c (M42 args 0 .lf) ⟨S.h,S.nx,[],S.ow,S.lg⟩ with
          | some (.exit _,_,_)=>none
          | some (_,f,S')=>match S'.df.all (M5D P) with
            | true=>match M6I P f S' fn.results.toList with
              | some vs=>some (M7q vs,⟨S'.h,S'.nx,S.df,S'.ow,S'.lg⟩)
              | none=>none
            | false=>none
          | none=>none
def MbI (P : Program) : Bool := P.funcs.toList.all fun fn => !(fn.name == "runtime.NumGoroutine")
def yes (P:Program) (L k g:Nat):Bool:=match Ma6 P L k g [] ⟨.lf,0,[],.lf,[]⟩ with
  | some (.bool b,_)=>b
  | _=>false
def eT:(t:Ty)→MN t.den
  | .int k=>Zd k
  | .bool=>Pt
  | .str=>Mv
  | .sl t=>Mi (eT t)
  | .unit=>MaL
  | .pair a b=>M3 (eT a) (eT b)
structure Ren where
  m:Nat→Option (Nat×Nat×Nat)
  ov:Nat→Option (Option Addr×Nat×Nat)
  zw:World
  zM:List Nat
instance:CoeFun Ren (fun _=>Nat→Option (Nat×Nat×Nat)):=⟨Ren.m⟩
structure Le (p q:Ren):Prop where
  m:∀ b x,p b=some x→q b=some x
  o:∀ b x,p.ov b=some x→q.ov b=some x
  z:Ro p.zM p.zw q.zM q.zw
theorem Ro.trans {M M' j:List Nat}{w w' r:World}(h:Ro M w M' w')(k:Ro M' w' j r):Ro M w j r:=
  ⟨⟨k.ev.os.trans h.ev.os,k.ev.tape.trans h.ev.tape,k.ev.output.trans h.ev.output,Nat.le_trans h.ev.size k.ev.size,fun b g q=>by
    rw [k.ev.block b (Nat.lt_of_lt_of_le g h.ev.size) fun u=>(h.new b u).elim q fun e=>by omega];exact h.ev.block b g q⟩,fun b g=>(k.new b g).elim (h.new b) fun e=>.inr (Nat.le_trans h.ev.size e)⟩
theorem Le.refl (p:Ren):Le p p:=⟨fun _ _ h=>h,fun _ _ h=>h,Ro.sub _ fun _ h=>h⟩
theorem Le.trans {p q r:Ren}(h:Le p q)(k:Le q r):Le p r:=⟨fun b x g=>k.m b x (h.m b x g),fun b x g=>k.o b x (h.o b x g),Ro.trans h.z k.z⟩
def RC (off n len cap:Nat):GC→Prop
  | .kn c=>cap=c∧len≤c
  | .op es=>off+cap*es=n∧len≤cap
mutual
def RV (p:Ren):GV→Value→Prop
  | .bool b,v=>v=.bool b
  | .int k n,v=>v=.int k n
  | .str s,v=>v=Vs s
  | .nilp,v=>v=.pointer none
  | .ptr b off,v=>∃ r base n,p b=some (r,base,n)∧v=.pointer (some ⟨r,base+off,none⟩)
  | .nils,v=>v=.slice none 0 0
  | .sl b off len c,v=>∃ r base n cap,p b=some (r,base,n)∧v=.slice (some ⟨r,base+off,none⟩) len cap∧RC off n len cap c
  | .sle,v=>∃ a c,v=.slice (some a) 0 c
  | .nilm,v=>v=.map none
  | .map b,v=>∃ r,p b=some (r,0,0)∧v=.map (some r)
  | .nilf,v=>v=.nilFunc
  | .func f a c,v=>∃ j q,v=.func (.func f) j.toArray q.toArray∧Ry p a j∧Ry p c q
  | .agg l,v=>∃ vs,v=.agg vs.toArray∧Ry p l vs
  | .tup l,v=>∃ vs,v=.tuple vs.toArray∧Ry p l vs
  | .ro t xs,v=>(eT (.sl t)).R p.zw p.zM [v] xs
  | .rop l off,v=>∃ ad vs,v=.pointer (some ⟨ad.block,ad.off+off,none⟩)∧Ms p.zw p.zM ad vs∧Ry p l vs
  | .own b,v=>∃ a n c,v=.slice a n c∧p.ov b=some (a,n,c)
  | .elp b t i off x,v=>∃ g n c,p.ov b=some (some ⟨g,0,none⟩,n,c)∧i<n∧v=.pointer (some ⟨g,i*t.sz+off,none⟩)
def Ry (p:Ren):List GV→List Value→Prop
  | [],[]=>True
  | g::l,v::vs=>RV p g v∧Ry p l vs
  | [],_::_=>False
  | _::_,[]=>False
end
mutual
theorem RV.mono {p q:Ren}(h:Le p q):∀ (g:GV) (v:Value),RV p g v→RV q g v
  | .bool _,_,r=>r
  | .int _ _,_,r=>r
  | .str _,_,r=>r
  | .nilp,_,r=>r
  | .ptr b off,_,⟨r,base,n,h1,h2⟩=>⟨r,base,n,h.m _ _ h1,h2⟩
  | .nils,_,r=>r
  | .sl b off len c,_,⟨r,base,n,cap,h1,h2⟩=>⟨r,base,n,cap,h.m _ _ h1,h2⟩
  | .sle,_,r=>r
  | .nilm,_,r=>r
  | .map b,_,⟨r,h1,h2⟩=>⟨r,h.m _ _ h1,h2⟩
  | .nilf,_,r=>r
  | .func f a c,_,⟨va,vc,h1,h2,h3⟩=>⟨va,vc,h1,Ry.mono h a va h2,Ry.mono h c vc h3⟩
  | .agg l,_,⟨vs,h1,h2⟩=>⟨vs,h1,Ry.mono h l vs h2⟩
  | .tup l,_,⟨vs,h1,h2⟩=>⟨vs,h1,Ry.mono h l vs h2⟩
  | .ro t xs,_,r=>(eT (.sl t)).step r h.z
  | .rop l off,_,⟨ad,vs,h1,h2,h3⟩=>⟨ad,vs,h1,h2.step h.z,Ry.mono h l vs h3⟩
  | .own b,_,⟨a,n,c,h1,h2⟩=>⟨a,n,c,h1,h.o _ _ h2⟩
  | .elp b t i off x,_,⟨g,n,c,h1,h2⟩=>⟨g,n,c,h.o _ _ h1,h2⟩
theorem Ry.mono {p q:Ren}(h:Le p q):∀ (l:List GV) (vs:List Value),Ry p l vs→Ry q l vs
  | [],[],_=>trivial
  | g::l,v::vs,⟨h1,h2⟩=>⟨RV.mono h g v h1,Ry.mono h l vs h2⟩
  | [],_::_,h=>h.elim
  | _::_,[],h=>h.elim
end
theorem Ry.length {p:Ren}:∀ {l:List GV} {vs:List Value},Ry p l vs→vs.length=l.length
  | [],[],_=>rfl
  | g::l,v::vs,⟨h1,h2⟩=>by simp [Ry.length h2]
  | [],_::_,h=>h.elim
  | _::_,[],h=>h.elim
theorem Ry.get {p:Ren}:∀ {l:List GV} {vs:List Value} {i:Nat} {g:GV},Ry p l vs→l[i]? = some g→∃ v,vs[i]? = some v∧RV p g v
  | g::l,v::vs,0,_,⟨h1,h2⟩,h=>by cases h; exact ⟨v,rfl,h1⟩
  | g::l,v::vs,i+1,_,⟨h1,h2⟩,h=>Ry.get (l:=l) (vs:=vs) (i:=i) h2 (by simpa using h)
  | [],[],_,_,_,h=>by cases h
  | [],_::_,_,_,h,_=>h.elim
  | _::_,[],_,_,h,_=>h.elim
theorem Ry.drop {p:Ren}:∀ {l:List GV} {vs:List Value} (n:Nat),Ry p l vs→Ry p (l.drop n) (vs.drop n)
  | l,vs,0,h=>h
  | g::l,v::vs,n+1,⟨h1,h2⟩=>Ry.drop n h2
  | [],[],n+1,_=>trivial
  | [],_::_,_,h=>h.elim
  | _::_,[],_,h=>h.elim
theorem Ry.take {p:Ren}:∀ {l:List GV} {vs:List Value} (n:Nat),Ry p l vs→Ry p (l.take n) (vs.take n)
  | l,vs,0,h=>trivial
  | g::l,v::vs,n+1,⟨h1,h2⟩=>⟨h1,Ry.take n h2⟩
  | [],[],n+1,_=>trivial
  | [],_::_,_,h=>h.elim
  | _::_,[],_,h=>h.elim
theorem Ry.append {p:Ren}:∀ {l m:List GV} {vs j:List Value},Ry p l vs→Ry p m j→Ry p (l++m) (vs++j)
  | [],m,[],j,_,h=>h
  | g::l,m,v::vs,j,⟨h1,h2⟩,h=>⟨h1,Ry.append h2 h⟩
  | [],_,_::_,_,h,_=>h.elim
  | _::_,_,[],_,h,_=>h.elim
theorem Ry.rep {p:Ren}{z:List GV}{zs:List Value}(h:Ry p z zs):∀ n,∃ g,Ry p (rep n z) g∧g=(List.replicate n zs).flatten
  | 0=>⟨[],trivial,rfl⟩
  | n+1=>let ⟨g,h1,h2⟩:=Ry.rep h n; ⟨zs++g,Ry.append h h1,by rw [h2,List.replicate_succ,List.flatten_cons]⟩
theorem RV.ats {p:Ren}{g:GV}{v:Value}(h:RV p g v):Ry p g.ats v.cells.toList:=by
  cases g <;> simp only [RV] at h <;> simp only [GV.ats]
  case agg l=>obtain ⟨vs,rfl,h⟩:=h; simpa [Value.cells] using h
  case bool=>subst h; exact ⟨rfl,trivial⟩
  case int=>subst h; exact ⟨rfl,trivial⟩
  case str=>subst h; exact ⟨rfl,trivial⟩
  case nilp=>subst h; exact ⟨rfl,trivial⟩
  case ptr=>obtain ⟨r,base,n,h1,rfl⟩:=h; exact ⟨⟨r,base,n,h1,rfl⟩,trivial⟩
  case nils=>subst h; exact ⟨rfl,trivial⟩
  case sl=>obtain ⟨r,base,n,cap,h1,rfl,j⟩:=h; exact ⟨⟨r,base,n,cap,h1,rfl,j⟩,trivial⟩
  case sle=>obtain ⟨a,c,rfl⟩:=h; exact ⟨⟨a,c,rfl⟩,trivial⟩
  case nilm=>subst h; exact ⟨rfl,trivial⟩
  case map=>obtain ⟨r,h1,rfl⟩:=h; exact ⟨⟨r,h1,rfl⟩,trivial⟩
  case nilf=>subst h; exact ⟨rfl,trivial⟩
  case func=>obtain ⟨q,u,rfl,h1,j⟩:=h; exact ⟨⟨q,u,rfl,h1,j⟩,trivial⟩
  case tup=>obtain ⟨vs,rfl,h⟩:=h; exact ⟨⟨vs,rfl,h⟩,trivial⟩
  case ro t xs=>
    obtain ⟨a,c,e,h⟩:=h;cases e;exact ⟨⟨a,c,rfl,h⟩,trivial⟩
  case rop=>obtain ⟨ad,vs,rfl,h⟩:=h; exact ⟨⟨ad,vs,rfl,h⟩,trivial⟩
  case own=>obtain ⟨a,n,c,rfl,h⟩:=h; exact ⟨⟨a,n,c,rfl,h⟩,trivial⟩
  case elp=>obtain ⟨g,n,c,h1,j,rfl⟩:=h; exact ⟨⟨g,n,c,h1,j,rfl⟩,trivial⟩
theorem RV.cell {p:Ren}{g:GV}{v:Value}(h:RV p g v)(q:XE g=true):v.oneCell'=true:=by
  cases g <;> simp only [RV] at h <;> first
    | (subst h; rfl)
    | (cases q; done)
    | (obtain ⟨r,base,n,h1,rfl⟩:=h; rfl)
    | (obtain ⟨r,base,n,cap,h1,rfl,j⟩:=h; rfl)
    | (obtain ⟨a,c,rfl⟩:=h; rfl)
    | (obtain ⟨r,h1,rfl⟩:=h; rfl)
    | (obtain ⟨u,A,rfl,h1,j⟩:=h; rfl)
    | (obtain ⟨g,n,c,h1,j,rfl⟩:=h; rfl)
    | (obtain ⟨ad,vs,rfl,h⟩:=h; rfl)
    | (obtain ⟨a,n,c,rfl,h⟩:=h; rfl)
    | (obtain ⟨a,c,e,h⟩:=h; cases e; rfl)
theorem Ry.cell {p:Ren}:∀ {l:List GV} {vs:List Value},Ry p l vs→l.all XE=true→∀ v∈vs,v.oneCell'=true
  | [],[],_,_,v,hv=>by cases hv
  | g::l,u::vs,⟨h1,h2⟩,h,v,hv=>by
    simp only [List.all_cons,Bool.and_eq_true] at h;rcases List.mem_cons.1 hv with rfl | hv
    · exact h1.cell h.1
    · exact Ry.cell h2 h.2 v hv
  | [],_::_,h,_,_,_=>h.elim
  | _::_,[],h,_,_,_=>h.elim
theorem M7r {p:Ren}{v:Value}{g:GV}(h:Ma1 v=some g):RV p g v:=by
  unfold Ma1 at h
  split at h <;> first | (cases h; done) | (cases h; exact rfl) | skip
  cases h;exact ⟨[],[],rfl,trivial,trivial⟩
theorem M1c {p:Ren}:∀ {l:List Value} {j:List GV},M3X l=some j→Ry p j l
  | [],j,h=>by cases h; trivial
  | v::l,j,h=>by
    unfold M3X at h
    split at h
    · rename_i g q
      split at h
      · rename_i r u
        cases h;exact ⟨M7r q,M1c u⟩
      · cases h
    · cases h
theorem M5E {p:Ren}{v:Value}{g:GV}(h:M7p v=some g):RV p g v:=by
  unfold M7p at h
  split at h
  · rename_i cs
    obtain ⟨l,h1,rfl⟩:=Option.map_eq_some_iff.1 h;exact ⟨cs.toList,by simp,M1c h1⟩
  · rename_i cs
    obtain ⟨l,h1,rfl⟩:=Option.map_eq_some_iff.1 h;exact ⟨cs.toList,by simp,M1c h1⟩
  · exact M7r h
theorem Tr.get_set {α:Type}:∀ (n:Nat) (t:Tr α) (k j:Nat) (v:Option α),k+1<2 ^ n→(Tr.set n t k v).get j=if j=k then v else t.get j
  | 0,_,k,_,_,h=>by simp at h
  | n+1,t,k,j,v,h=>by
    have F:k+1<2*2 ^ n:=by rw [Nat.pow_succ] at h; omega
    have beq:∀ a b:Nat,Nat.beq a b=decide (a=b):=fun a b=>by
      by_cases e:a=b
      · subst e; simp
      · rw [VP e]; simp [e]
    have E:∀ m:Nat,(Tr.lf:Tr α).get m=none:=fun _=>rfl
    have D:=fun t i j=>Tr.get_set n t i j v
    cases t with
    | lf=>
      unfold Tr.set
      by_cases A:k=0
      · subst A;simp only [beq,decide_true];unfold Tr.get
        by_cases g:j=0
        · simp [beq,g]
        · simp only [beq,g,decide_false,if_false]
          split <;> rfl
      · by_cases B:k%2=1
        · simp only [beq,A,B,decide_false,decide_true];unfold Tr.get
          by_cases g:j=0
          · subst g; simp [beq,Ne.symm A]
          · by_cases q:j%2=1
            · simp only [beq,g,q,decide_false,decide_true];rw [D _ _ _ (by omega)]
              by_cases u:j=k
              · subst u; simp
              · rw [if_neg (by omega),if_neg u]; rfl
            · simp only [beq,g,q,decide_false];rw [if_neg (by intro e; subst e; exact q B)]; rfl
        · simp only [beq,A,B,decide_false];unfold Tr.get
          by_cases g:j=0
          · subst g; simp [beq,Ne.symm A]
          · by_cases q:j%2=1
            · simp only [beq,g,q,decide_false,decide_true];rw [if_neg (by intro e; subst e; exact B q)]; rfl
            · simp only [beq,g,q,decide_false];rw [D _ _ _ (by omega)]
              by_cases u:j=k
              · subst u; simp
              · rw [if_neg (by omega),if_neg u]; rfl
    | nd o l r=>
      unfold Tr.set
      by_cases A:k=0
      · subst A;simp only [beq,decide_true]
        conv=>lhs; unfold Tr.get
        conv=>rhs; unfold Tr.get
        by_cases g:j=0
        · simp [beq,g]
        · simp only [beq,g,decide_false,if_false]
      · by_cases B:k%2=1
        · simp only [beq,A,B,decide_false,decide_true]
          conv=>lhs; unfold Tr.get
          conv=>rhs; unfold Tr.get
          by_cases g:j=0
          · subst g; simp [beq,Ne.symm A]
          · by_cases q:j%2=1
            · simp only [beq,g,q,decide_false,decide_true];rw [D _ _ _ (by omega)]
              by_cases u:j=k
              · subst u; simp
              · rw [if_neg (by omega),if_neg u]
            · simp only [beq,g,q,decide_false];rw [if_neg (by intro e; subst e; exact q B)]
        · simp only [beq,A,B,decide_false]
          conv=>lhs; unfold Tr.get
          conv=>rhs; unfold Tr.get
          by_cases g:j=0
          · subst g; simp [beq,Ne.symm A]
          · by_cases q:j%2=1
            · simp only [beq,g,q,decide_false,decide_true];rw [if_neg (by intro e; subst e; exact B q)]
            · simp only [beq,g,q,decide_false];rw [D _ _ _ (by omega)]
              by_cases u:j=k
              · subst u; simp
              · rw [if_neg (by omega),if_neg u]
theorem P2 {S S':St}{b:Nat}{g:Option GB}(h:S.put b g=some S'):S'.nx=S.nx∧S'.df=S.df∧∀ j,S'.h.get j=if j=b then g else S.h.get j:=by
  unfold St.put at h
  split at h
  · rename_i q
    cases h;have:=Nat.le_of_ble_eq_true q;exact ⟨rfl,rfl,fun j=>Tr.get_set _ _ _ _ _ (by unfold M3Y; unfold lim at this; omega)⟩
  · cases h
theorem M1Q {S S':St}{b:Nat}{g:Option GB}(h:S.put b g=some S'):S'.ow=S.ow:=by
  unfold St.put at h
  split at h
  · cases h; rfl
  · cases h
theorem Yp {n:Nat}{f f':GF}{d:Option Tmp}{v:GV}(h:M6F n f d v=some f'):(∀ t,d=some t→t<n)∧∀ t,f'.get t=if d=some t then some v else f.get t:=by
  unfold M6F at h
  split at h
  · cases h;exact ⟨fun _ h=>(by cases h),fun t=>by simp⟩
  · rename_i d
    split at h
    · rename_i h1 g
      cases h;have h1:=Nat.le_of_ble_eq_true h1;have g:=Nat.le_of_ble_eq_true g;refine ⟨fun t h=>(by cases h; exact h1),fun t=>?_⟩;rw [Tr.get_set _ _ _ _ _ (by unfold M3Y; unfold lim at g; omega)]
      by_cases e:t=d
      · subst e; simp
      · rw [if_neg e,if_neg (by simpa using fun h=>e h.symm)]
    · cases h
def RM (p:Ren):List (GV×GV)→List MapEntry→Prop
  | [],[]=>True
  | (k,v)::l,e::es=>(RV p k e.key∧RV p v e.val)∧RM p l es
  | [],_::_=>False
  | _::_,[]=>False
theorem RM.mono {p q:Ren}(h:Le p q):∀ {l:List (GV×GV)} {es:List MapEntry},RM p l es→RM q l es
  | [],[],_=>trivial
  | (k,v)::l,e::es,⟨⟨h1,h2⟩,h3⟩=>⟨⟨h1.mono h,h2.mono h⟩,RM.mono h h3⟩
  | [],_::_,h=>h.elim
  | _::_,[],h=>h.elim
def RB (p:Ren) (w:World) (r base n:Nat):GB→Prop
  | .cells l=>∃ (cs:Array Value) (ty:TypeId) (fz:Nat×Nat),w.heap[r]? = some (.cells cs ty fz)∧cs.size=base+n∧(fz.1=fz.2∨cs.size≤fz.1)∧∃ vs,Ry p l vs∧vs <+: cs.toList.drop base
  | .map es=>∃ (Ph:Array MapEntry) (clock:Nat),w.heap[r]? = some (.map Ph clock)∧RM p es Ph.toList
theorem RB.mono {p q:Ren}(h:Le p q){w w':World}{r base n:Nat}(j:w'.heap[r]? = w.heap[r]?):∀ {g:GB},RB p w r base n g→RB q w' r base n g
  | .cells l,⟨cs,ty,fz,h1,h2,h3,vs,h4,h5⟩=>⟨cs,ty,fz,j.trans h1,h2,h3,vs,h4.mono h,h5⟩
  | .map es,⟨Ph,c,h1,h2⟩=>⟨Ph,c,j.trans h1,h2.mono h⟩
def Bk (p:Ren) (k:Nat):Prop:=(∃ b x,p b=some x∧x.1=k)∨∃ b y,p.ov b=some y∧k∈ML y.1
def Liv (p:Ren) (k:Nat):Prop:=k∈p.zM∨p.zw.heap.size≤k
def X9 (p:Ren) (b:Nat):Prop:=p b=none∧p.ov b=none
def eZ (p:Ren) (t:Ty):MN t.den:=⟨(eT t).n,fun _ _ cs x=>(eT t).R p.zw p.zM cs x,fun h=>(eT t).len h,fun h _=>h,fun h=>(eT t).one h⟩
structure RW (p:Ren) (S:St) (w:World):Prop where
  zev:Ev p.zM p.zw w
  zl:∀ b x,p b=some x→S.h.get b≠none→Liv p x.1
  mu:∀ b o a n c,S.ow.get b=some o→o.mu=true→p.ov b=some (a,n,c)→n=o.xs.length∧M9 (eZ p o.t) o.T w [] a c o.xs∧∀ g∈ML a,Liv p g
  ro:∀ b o a n c,S.ow.get b=some o→o.mu=false→p.ov b=some (a,n,c)→n=o.xs.length∧Ma (eT o.t) p.zw p.zM a c o.xs
  inj:∀ b b' o o' y y',S.ow.get b=some o→S.ow.get b'=some o'→o.mu=true→o'.mu=true→p.ov b=some y→p.ov b'=some y'→∀ g∈ML y.1,g∈ML y'.1→b=b'
  sep:∀ b o y b' x,S.ow.get b=some o→o.mu=true→p.ov b=some y→p b'=some x→S.h.get b'≠none→x.1∉ML y.1
structure RH (p:Ren) (S:St) (w:World):Prop where
  at_:∀ b r base n g,p b=some (r,base,n)→S.h.get b=some g→RB p w r base n g
  inj:∀ b b' x x',p b=some x→p b'=some x'→S.h.get b≠none→S.h.get b'≠none→x.1=x'.1→b=b'
  lt:∀ b x,p b=some x→x.1<w.heap.size
  fr:∀ b,S.nx≤b→X9 p b
  ro:RW p S w
structure Ch (N:Nat→Prop) (p:Ren) (w:World) (q:Ren) (w':World):Prop where
  le:Le p q
  new:∀ b,¬ X9 q b→¬ X9 p b∨N b
  os:w'.os=w.os
  tape:w'.tape=w.tape
  output:w'.output=w.output
  size:w.heap.size≤w'.heap.size
  out:∀ k,k<w.heap.size→¬ Bk p k→w'.heap[k]? = w.heap[k]?
  img:∀ k,Bk q k→Bk p k∨w.heap.size≤k
theorem Ch.refl (N:Nat→Prop)(p:Ren)(w:World):Ch N p w p w:=
  ⟨Le.refl _,fun _ h=>.inl h,rfl,rfl,rfl,Nat.le_refl _,fun _ _ _=>rfl,fun _ h=>.inl h⟩
theorem Ch.trans {N:Nat→Prop}{p q s:Ren}{w w' u:World}(h:Ch N p w q w')(k:Ch N q w' s u):Ch N p w s u where
  le:=h.le.trans k.le
  new:=fun b j=>(k.new b j).elim (fun A=>h.new b A) .inr
  os:=k.os.trans h.os
  tape:=k.tape.trans h.tape
  output:=k.output.trans h.output
  size:=Nat.le_trans h.size k.size
  out:=fun i g r=>by
    rw [k.out i (Nat.lt_of_lt_of_le g h.size) (fun j=>(h.img i j).elim r fun e=>by omega)];exact h.out i g r
  img:=fun i g=>(k.img i g).elim (h.img i) fun e=>.inr (Nat.le_trans h.size e)
theorem Ch.mono {N g:Nat→Prop}{p q:Ren}{w w':World}(h:Ch N p w q w')(r:∀ b,N b→g b):Ch g p w q w':=
  ⟨h.le,fun b j=>(h.new b j).imp id (r b),h.os,h.tape,h.output,h.size,h.out,h.img⟩
theorem Ch.drew (N:Nat→Prop)(p:Ren)(w:World):Ch N p w p w.drew:=
  ⟨Le.refl _,fun _ h=>.inl h,rfl,rfl,rfl,Nat.le_refl _,fun _ _ _=>rfl,fun _ h=>.inl h⟩
theorem RW.next {p:Ren}{S S':St}{w w':World}(h:RW p S w){m':Nat→Option (Nat×Nat×Nat)}{Mo:List Nat}(Z:∀ b,p.ov b≠none→S'.ow.get b=S.ow.get b)(J:Ev Mo w w')
    (I:∀ k∈Mo,∃ b x,p b=some x∧S.h.get b≠none∧x.1=k)
    (O:∀ b x,m' b=some x→S'.h.get b≠none→(∃ b' x',p b'=some x'∧S.h.get b'≠none∧x'.1=x.1)∨w.heap.size≤x.1):RW { p with m:=m' } S' w':=by
  have Y:∀ b o y,S.ow.get b=some o→o.mu=true→p.ov b=some y→∀ g∈ML y.1,g<w.heap.size:=fun b o y h1 j q=>by
    exact (h.mu b o y.1 y.2.1 y.2.2 h1 j q).2.1.lt
  have B:∀ {b o y},S'.ow.get b=some o→p.ov b=some y→S.ow.get b=some o:=fun {b o y} h1 j=>by rw [← Z b (by rw [j]; simp)]; exact h1
  refine ⟨?_,fun b x h1 j=>?_,fun b o a n c h1 j q=>?_,fun b o a n c h1 j q=>h.ro b o a n c (B h1 q) j q,fun b b' o o' y y' h1 j q F E H=>h.inj b b' o o' y y' (B h1 E) (B j H) q F E H,fun b o y b' x h1 j q F E=>?_⟩
  · have:Ro p.zM p.zw (p.zM++Mo) w:=⟨h.zev,fun b A=>(List.mem_append.1 A).elim .inl fun A=>by
      obtain ⟨b',x,r,u,rfl⟩:=I b A;exact h.zl b' x r u⟩
    exact (Ro.trans this (Ro.same J (fun b A=>List.mem_append_right _ A))).ev
  · rcases O b x h1 j with ⟨b',x',r,u,D⟩ | e
    · have:=h.zl b' x' r u;rw [D] at this; exact this
    · exact .inr (Nat.le_trans h.zev.size e)
  · have h1:=B h1 q;obtain ⟨r,u,D⟩:=h.mu b o a n c h1 j q;refine ⟨r,u.evp (fun _ _ _ _ _ _ h=>h) J fun g X G=>?_,D⟩;obtain ⟨b',x,j1,j2,rfl⟩:=I g G;exact h.sep b o _ b' x h1 j q j1 j2 X
  · have h1:=B h1 q;rcases O b' x F E with ⟨U,x',r,u,D⟩ | e
    · rw [← D]; exact h.sep b o y U x' h1 j q r u
    · intro G;have:=Y b o y h1 j q _ G;omega
theorem RH.congr {p:Ren}{S S':St}{w:World}(h:RH p S w)(q:∀ b,p b≠none→S'.h.get b=S.h.get b)(D:S.nx≤S'.nx)(E:∀ b,p.ov b≠none→S'.ow.get b=S.ow.get b):RH p S' w:=
  ⟨fun b r base n g h1 j=>h.at_ b r base n g h1 (by rw [← q b (by rw [h1]; simp)]; exact j),
    fun b b' x x' h1 j u A=>h.inj b b' x x' h1 j (by rw [← q b (by rw [h1]; simp)]; exact u) (by rw [← q b' (by rw [j]; simp)]; exact A),
    h.lt,fun b B=>h.fr b (Nat.le_trans D B),h.ro.next (m':=p.m) E (Ev.refl [] _) (fun _ h=>by cases h) fun b x h1 j=>.inl ⟨b,x,h1,by rw [← q b (by rw [h1]; simp)]; exact j,rfl⟩⟩
theorem RH.drew {p:Ren}{S:St}{w:World}(h:RH p S w):RH p S w.drew:=⟨h.at_,h.inj,h.lt,h.fr,h.ro.next (m':=p.m) (fun _ _=>rfl) (⟨rfl,rfl,rfl,Nat.le_refl _,fun _ _ _=>rfl⟩:Ev [] w w.drew) (fun _ h=>by cases h) fun b x h1 g=>.inl ⟨b,x,h1,g,rfl⟩⟩
theorem M3h {l m:List GV}{off n:Nat}(h:cut l off n=some m):m=(l.drop off).take n∧m.length=n:=by
  unfold cut at h;simp only at h
  split at h
  · rename_i g; cases h; exact ⟨rfl,g⟩
  · cases h
theorem M6J {α:Type}{vs l:List α}(h:vs <+: l){i:Nat}{v:α}(hv:vs[i]? = some v):l[i]? = some v:=by
  obtain ⟨t,rfl⟩:=h;rw [List.getElem?_append_left (List.getElem?_eq_some_iff.1 hv).1]; exact hv
theorem RH.cells {p:Ren}{S:St}{w:World}(h:RH p S w){b r base n off k:Nat}{l m:List GV}(u:p b=some (r,base,n))(E:S.h.get b=some (.cells l))(D:cut l off k=some m) :
    ∃ vs,Ry p m vs∧vs.length=k∧Ms w [] ⟨r,base+off,none⟩ vs:=by
  obtain ⟨cs,ty,fz,h1,G,H,vs,A,B⟩:=h.at_ b r base n _ u E;obtain ⟨rfl,F⟩:=M3h D;have g:=(A.drop off).take k;refine ⟨(vs.drop off).take k,g,by rw [g.length,F],rfl,by simp,h.lt _ _ u,fun j v hv=>?_⟩;rw [PG h1];rw [List.getElem?_take] at hv
  split at hv
  · rw [List.getElem?_drop] at hv;have q:=M6J B hv;rw [List.getElem?_drop] at q;rw [← Array.getElem?_toList,Nat.add_assoc]; exact q
  · cases hv
theorem RH.cell {p:Ren}{S:St}{w:World}(h:RH p S w){b r base n off:Nat}{l:List GV}{g:GV}(D:p b=some (r,base,n))(A:S.h.get b=some (.cells l))(j:l[off]? = some g) :
    ∃ v,RV p g v∧Ms w [] ⟨r,base+off,none⟩ [v]:=by
  have B:=(List.getElem?_eq_some_iff.1 j).1;have:cut l off 1=some [g]:=by
    have e:(l.drop off).take 1=[g]:=by
      rw [List.drop_eq_getElem_cons B];simp only [List.take_succ_cons,List.take_zero];rw [(List.getElem?_eq_some_iff.1 j).2]
    unfold cut;simp only [e];rfl
  obtain ⟨vs,h1,q,u⟩:=h.cells D A this
  match vs,h1,q with
  | [v],h1,_=>exact ⟨v,h1.1,u⟩
def Ren.set (p:Ren) (b:Nat) (x:Nat×Nat×Nat):Ren:={ p with m:=fun i=>if i=b then some x else p i }
theorem Ren.set_same (p:Ren)(b:Nat)(x:Nat×Nat×Nat):p.set b x b=some x:=by simp [Ren.set]
theorem Ren.set_ne {p:Ren}{b i:Nat}{x:Nat×Nat×Nat}(h:i≠b):p.set b x i=p i:=by simp [Ren.set,h]
theorem Ren.set_le {p:Ren}{b:Nat}{x:Nat×Nat×Nat}(h:p b=none):Le p (p.set b x):=⟨fun i y g=>by
  by_cases e:i=b
  · subst e; rw [h] at g; cases g
  · rw [Ren.set_ne e]; exact g,fun _ _ h=>h,Ro.sub _ fun _ h=>h⟩
theorem M7s {p:Ren}{name:Nat}{x:Nat×Nat×Nat}:∀ b,¬ X9 (p.set name x) b→¬ X9 p b∨b=name:=fun b h1=>by
  by_cases e:b=name
  · exact .inr e
  · left; intro h; exact h1 ⟨by rw [Ren.set_ne e]; exact h.1,h.2⟩
theorem M7t {p:Ren}{name:Nat}{x:Nat×Nat×Nat}:∀ k,Bk (p.set name x) k→Bk p k∨k=x.1:=fun k j=>by
  rcases j with ⟨b,y,h1,g⟩ | h
  · by_cases e:b=name
    · subst e; rw [Ren.set_same] at h1; cases h1; exact .inr g.symm
    · rw [Ren.set_ne e] at h1; exact .inl (.inl ⟨b,y,h1,g⟩)
  · exact .inl (.inr h)
theorem M8W {p:Ren}{S S':St}{name:Nat}{x:Nat×Nat×Nat}(h:∀ b,S.nx≤b→X9 p b)(j:S'.nx=S.nx)(q:name<S.nx):∀ b,S'.nx≤b→X9 (p.set name x) b:=fun b g=>by
  have:=h b (by omega);exact ⟨by rw [Ren.set_ne (by omega)]; exact this.1,this.2⟩
theorem RH.new {p:Ren}{S S':St}{w:World}(h:RH p S w){name base n:Nat}{g:GB}{o:Obj}(I:S.put name (some g)=some S')(X:X9 p name)(Y:name<S.nx)
    (U:∀ q,Le p q→RB q (w.alloc o) w.heap.size base n g) :
    RH (p.set name (w.heap.size,base,n)) S' (w.alloc o)∧Ch (· = name) p w (p.set name (w.heap.size,base,n)) (w.alloc o):=by
  obtain ⟨s1,_,G⟩:=P2 I;have F:=Ren.set_le (x:=(w.heap.size,base,n)) X.1;have H:Ev [] w (w.alloc o):=⟨rfl,rfl,rfl,by rw [RX]; omega,fun k A _=>heap_alloc_old w o k A⟩
  refine ⟨⟨fun b r J Z O h1 j=>?_,fun b b' x x' h1 j B D E=>?_,fun b x h1=>?_,M8W h.fr s1 Y,?_⟩,⟨F,M7s,rfl,rfl,rfl,H.size,fun k A _=>heap_alloc_old w o k A,fun k A=>(M7t k A).imp id fun e=>Nat.le_of_eq e.symm⟩⟩
  · rw [G] at j
    by_cases e:b=name
    · subst e;rw [if_pos rfl] at j;cases j;rw [Ren.set_same] at h1;cases h1;exact U _ F
    · rw [if_neg e] at j;rw [Ren.set_ne e] at h1;exact (h.at_ b r J Z O h1 j).mono F (heap_alloc_old w o _ (h.lt _ _ h1))
  · rw [G] at B D
    by_cases e:b=name
    · by_cases u:b'=name
      · rw [e,u]
      · subst e;rw [Ren.set_same] at h1;rw [Ren.set_ne u] at j;cases h1;have:=h.lt _ _ j;simp only at E;omega
    · by_cases u:b'=name
      · subst u;rw [Ren.set_same] at j;rw [Ren.set_ne e] at h1;cases j;have:=h.lt _ _ h1;simp only at E;omega
      · rw [if_neg e] at B;rw [if_neg u] at D;rw [Ren.set_ne e] at h1;rw [Ren.set_ne u] at j;exact h.inj b b' x x' h1 j B D E
  · rw [RX]
    by_cases e:b=name
    · subst e; rw [Ren.set_same] at h1; cases h1; exact Nat.lt_succ_self _
    · rw [Ren.set_ne e] at h1; have:=h.lt _ _ h1; omega
  · refine h.ro.next (fun _ _=>by rw [M1Q I]) H (fun _ h=>by cases h) fun b x h1 j=>?_
    by_cases e:b=name
    · right;rw [if_pos e] at h1;cases h1;exact Nat.le_refl _
    · left;rw [if_neg e] at h1;rw [G,if_neg e] at j;exact ⟨b,x,h1,j,rfl⟩
theorem Vb {S S':St}{name:Nat}{g:List GV}(h:newB S name g=some S'):g.all XE=true∧S.put name (some (.cells g))=some S':=by
  unfold newB at h
  split at h
  · rename_i h1; exact ⟨h1,h⟩
  · cases h
theorem RH.row {p:Ren}{S S':St}{w:World}(h:RH p S w){name:Nat}{g:List GV}{vs:List Value}(rest:List Value){ty:TypeId}{fz:Nat×Nat}(u:newB S name g=some S')(r:X9 p name)(B:name<S.nx)
    (hv:Ry p g vs) (j:fz.1=fz.2∨(vs++rest).length≤fz.1) :
    RH (p.set name (w.heap.size,0,(vs++rest).length)) S' (w.alloc (.cells (vs++rest).toArray ty fz))∧Ch (· = name) p w (p.set name (w.heap.size,0,(vs++rest).length)) (w.alloc (.cells (vs++rest).toArray ty fz)):=
  h.new (Vb u).2 r B fun q A=>⟨(vs++rest).toArray,ty,fz,W2 _ _,by simp,by simpa using j,vs,hv.mono A,by simp⟩
theorem VL (P:Program)(g o:Nat)(t:TypeId)(fz:Nat×Nat):∀ (vs:List Value) (i:Nat) (cur:Array Value) (w:World),w.heap[g]? = some (.cells cur t fz)→(fz.1=fz.2∨cur.size≤fz.1)→o+i+vs.length≤cur.size→(∀ v∈vs,v.oneCell'=true)→
    (storeCells ⟨g,o,none⟩ vs i).run P w=.ok () (w.setRow g (cur.toList.take (o+i)++vs++cur.toList.drop (o+i+vs.length)).toArray)
  | [],i,cur,w,hg,_,_,_=>by
    simp only [storeCells,List.append_nil,List.length_nil,Nat.add_zero,List.take_append_drop,Array.toArray_toList];rw [setRow_self w g cur t fz hg];rfl
  | v::rest,i,cur,w,hg,hfz,hl,h1=>by
    have r:o+i<cur.size:=by simp at hl; omega
    have j:w.cell? ⟨g,o+i,none⟩=some cur[o+i]:=by simp [World.cell?,hg,r]
    have q:w.frozen? ⟨g,o+i,none⟩=false:=by
      obtain ⟨D,up⟩:=fz;simp only [World.frozen?,hg,Bool.and_eq_false_iff,decide_eq_false_iff_not];simp only at hfz;omega
    have u:(store ((⟨g,o,none⟩:Addr).add i) v).run P w=.ok () (w.setRow g (cur.setIfInBounds (o+i) v)):=by
      rw [MM rfl,run_store P w _ v _ (h1 v (by simp)),j];simp [q,setCell_eq_setRow w g (o+i) cur t fz v hg]
    have B:=VL P g o t fz rest (i+1) (cur.setIfInBounds (o+i) v) (w.setRow g (cur.setIfInBounds (o+i) v)) (setRow_heap w g cur _ t _ hg) (by simpa using hfz) (by simp at hl ⊢; omega) (fun x A=>h1 x (by simp [A]));simp only [storeCells,Sem.run_bind,u,Result.andThen_ok,B,setRow_setRow]
    congr 3
    have e:=list_seg_step cur.toList (o+i) v rest (by simp at hl ⊢; omega)
    simpa [Array.toList_setIfInBounds,Nat.add_assoc] using e
theorem M80 {α:Type}(A g t vs:List α)(off:Nat)(h:off+vs.length≤g.length) :
    g.take off++(vs++g.drop (off+vs.length))++t=((A++(g++t)).take (A.length+off)++vs++(A++(g++t)).drop (A.length+off+vs.length)).drop A.length:=by
  have j:(A++(g++t)).take (A.length+off)=A++g.take off:=by
    rw [List.take_length_add_append,List.take_append_of_le_length (by omega)]
  have q:(A++(g++t)).drop (A.length+off+vs.length)=g.drop (off+vs.length)++t:=by
    rw [Nat.add_assoc,List.drop_length_add_append,List.drop_append_of_le_length (by omega)]
  rw [j,q];simp only [List.append_assoc,List.drop_left]
theorem M43 {l g j:List GV}{off:Nat}(h:over l off g=some j):off+g.length≤l.length∧g.all XE=true∧j=l.take off++(g++l.drop (off+g.length)):=by
  unfold over at h
  split at h
  · rename_i h1; cases h; exact ⟨h1.1,h1.2,rfl⟩
  · cases h
theorem RH.updW {p:Ren}{S S':St}{w w':World}(h:RH p S w){b r base n:Nat}{g:GB}(u:p b=some (r,base,n))(hs:S.h.get b≠none)(F:S.put b (some g)=some S')
    (D:w'.heap.size=w.heap.size) (B:∀ k,k≠r→w'.heap[k]? = w.heap[k]?) (h1:w'.os=w.os) (j:w'.tape=w.tape) (q:w'.output=w.output) (Z:RB p w' r base n g) :
    RH p S' w'∧Ch (fun _=>False) p w p w':=by
  obtain ⟨s1,_,H⟩:=P2 F;have key:∀ i,S'.h.get i≠none→S.h.get i≠none:=fun i A=>by
    rw [H] at A
    split at A
    · rename_i e; rw [e]; exact hs
    · exact A
  have ab:Ev [r] w w':=⟨h1,j,q,Nat.le_of_eq D.symm,fun k _ hm=>B k (by simpa using hm)⟩
  refine ⟨⟨fun b' E O n' X h1 j=>?_,fun I J x x' h1 j q Y he=>h.inj I J x x' h1 j (key _ q) (key _ Y) he,fun b' x h1=>by rw [D]; exact h.lt b' x h1,fun b' ai=>h.fr b' (by omega),
      h.ro.next (m':=p.m) (fun _ _=>by rw [M1Q F]) ab (fun k G=>⟨b,_,u,hs,(List.mem_singleton.1 G).symm⟩) fun b' x k1 k2=>.inl ⟨b',x,k1,key _ k2,rfl⟩⟩,
    ⟨Le.refl _,fun _ h=>.inl h,h1,j,q,Nat.le_of_eq D.symm,fun k G ho=>B k (fun e=>ho (.inl ⟨b,_,u,e.symm⟩)),fun _ h=>.inl h⟩⟩
  rw [H] at j
  by_cases e:b'=b
  · subst e;rw [if_pos rfl] at j;cases j;rw [u] at h1;cases h1;exact Z
  · rw [if_neg e] at j;have ad:E≠r:=fun U=>e (h.inj b' b _ _ h1 u (by rw [j]; simp) hs U)
    exact (h.at_ b' E O n' X h1 j).mono (Le.refl _) (B E ad)
theorem RH.upd {p:Ren}{S S':St}{w:World}(h:RH p S w){b r base n:Nat}{g:GB}{cs':Array Value}(A:p b=some (r,base,n))(hs:S.h.get b≠none)(j:S.put b (some g)=some S')
    (q:RB p (w.setRow r cs') r base n g):RH p S' (w.setRow r cs')∧Ch (fun _=>False) p w p (w.setRow r cs'):=
  h.updW A hs j (by simp [World.setRow]) (fun k u=>setRow_other w r k cs' u) rfl rfl rfl q
theorem RH.kill {p:Ren}{S S':St}{w:World}(h:RH p S w){b:Nat}(u:S.put b none=some S'):RH p S' w:=by
  obtain ⟨J,_,A⟩:=P2 u;have key:∀ i,S'.h.get i≠none→S.h.get i≠none:=fun i q=>by
    rw [A] at q
    split at q
    · exact absurd rfl q
    · exact q
  exact ⟨fun b' r base n g h1 j=>h.at_ b' r base n g h1 (by rw [A] at j; split at j; cases j; exact j),fun B D x x' h1 j E F G=>h.inj B D x x' h1 j (key _ E) (key _ F) G,h.lt,fun i q=>h.fr i (by omega),
    h.ro.next (m':=p.m) (fun _ _=>by rw [M1Q u]) (Ev.refl [] _) (fun _ h=>by cases h) fun b' x H I=>.inl ⟨b',x,H,key _ I,rfl⟩⟩
theorem XF {S S':St}{b off:Nat}{j:List GV}(h:M0w S b off j=some S'):∃ l g,S.h.get b=some (.cells l)∧over l off j=some g∧S.put b (some (.cells g))=some S':=by
  unfold M0w at h
  split at h
  · rename_i l q
    split at h
    · rename_i g r; exact ⟨l,g,q,r,h⟩
    · cases h
  · cases h
theorem RH.store {P:Program}{p:Ren}{S S':St}{w:World}(h:RH p S w){b r base n off:Nat}{u:List GV}{vs:List Value}(A:p b=some (r,base,n))(H:M0w S b off u=some S')(hv:Ry p u vs) :
    ∃ w',(storeCells ⟨r,base+off,none⟩ vs).run P w=.ok () w'∧RH p S' w'∧Ch (fun _=>False) p w p w':=by
  obtain ⟨l,Z,h1,F,G⟩:=XF H;obtain ⟨o1,O,rfl⟩:=M43 F;obtain ⟨cs,ty,fz,q,U,D,g,j,E⟩:=h.at_ b r base n _ A h1;have I:=hv.length;have Y:=j.length;obtain ⟨t,B⟩:=E;have X:base+g.length+t.length=cs.size:=by
    have:=congrArg List.length B;simp only [List.length_append,List.length_drop,Array.length_toList] at this;rcases Nat.lt_or_ge base cs.size with hb | hb
    · omega
    · omega
  have J:=VL P r (base+off) ty fz vs 0 cs w q D (by omega) (hv.cell O);refine ⟨_,J,h.upd A (by rw [h1]; simp) G ⟨_,ty,fz,setRow_heap w r cs _ ty fz q,?_,?_,g.take off++(vs++g.drop (off+vs.length)),?_,?_⟩⟩
  · simp only [Nat.add_zero,List.size_toArray,List.length_append,List.length_take,List.length_drop,Array.length_toList]; omega
  · simp only [Nat.add_zero,List.size_toArray,List.length_append,List.length_take,List.length_drop,Array.length_toList];omega
  · rw [I]; exact (j.take off).append (hv.append (j.drop _))
  · refine ⟨t,?_⟩;have e:cs.toList=cs.toList.take base++(g++t):=by rw [B,List.take_append_drop]
    have hb:(cs.toList.take base).length=base:=by simp; omega
    simp only [Nat.add_zero];have:=M80 (cs.toList.take base) g t vs off (by omega);rw [← e,hb] at this;exact this
def Giv (P:Program) (N:Nat→Prop) (p:Ren) (w:World) (s:Sem Value) (g:GV) (S':St):Prop:=∃ q v w',s.run P w=.ok v w'∧RV q g v∧RH q S' w'∧Ch N p w q w'
theorem Giv.pure {P:Program}{N:Nat→Prop}{p:Ren}{S:St}{w:World}{s:Sem Value}{g:GV}{v:Value}(h:RH p S w)(j:s.run P w=.ok v w)(hv:RV p g v):Giv P N p w s g S:=⟨p,v,w,j,hv,h,Ch.refl _ _ _⟩
theorem RE {P:Program}{t n:Nat}(h:Xl P t=some n)(w:World):(sizeOf t).run P w=.ok n w:=by
  unfold Xl at h;obtain ⟨i,h1,g⟩:=Option.map_eq_some_iff.1 h;simp [sizeOf,typeInfo,h1,g]
theorem M1d {P:Program}{t:Nat}{b:Bool}(h:Mb7 P t=some b)(w:World):(isAgg t).run P w=.ok b w:=by
  unfold Mb7 at h;unfold isAgg;cases g:P.underlying t with
  | none=>rw [g] at h; cases h
  | some d=>
    rw [g] at h;rw [run_bind,run_underlying g];cases d <;>(cases h; rfl)
theorem Xd {P:Program}{t e n:Nat}(h:elB P t=some (e,n)):P.underlying t=some (.slice e)∧∃ i,P.info? e=some i∧i.size=n∧i.bytes≤4096:=by
  unfold elB at h
  split at h
  · rename_i r j
    split at h
    · rename_i i q
      split at h
      · rename_i g
        cases h;exact ⟨j,i,q,rfl,Nat.le_of_ble_eq_true g⟩
      · cases h
    · cases h
  · cases h
theorem V3 {P:Program}{p:Ren}{t:Nat}{z:List GV}(h:XD P t=some z):∃ i zv,P.info? t=some i∧i.zero=some zv∧Ry p z zv.cells.toList∧∀ w,(zeroValue t).run P w=.ok zv w:=by
  unfold XD at h
  split at h
  · rename_i i g
    split at h
    · rename_i zv j
      exact ⟨i,zv,g,j,M1c h,fun w=>by simp [zeroValue,typeInfo,g,j]⟩
    · cases h
  · cases h
theorem M2z {P:Program}{p:Ren}{t off:Nat}{l:List GV}{vs:List Value}{g:GV}(h:part P t l off=some g)(hv:Ry p l vs)(w:World):∃ v,(Go.part t vs.toArray off).run P w=.ok v w∧RV p g v:=by
  unfold part at h
  split at h
  · rename_i ha
    split at h
    · rename_i n q
      obtain ⟨m,h1,rfl⟩:=Option.map_eq_some_iff.1 h;obtain ⟨rfl,j⟩:=M3h h1;refine ⟨.agg (vs.toArray.extract off (off+n)),?_,(vs.drop off).take n,?_,(hv.drop off).take n⟩
      · unfold Go.part;rw [run_bind,M1d ha];simp only [if_true,Sem.run_bind,RE q,Result.andThen_ok,Sem.run_pure]
      · simp [List.extract_eq_take_drop]
    · cases h
  · rename_i ha
    obtain ⟨v,h1,j⟩:=hv.get h;refine ⟨v,?_,j⟩;unfold Go.part;rw [run_bind,M1d ha];simp [h1]
  · cases h
theorem M5F {P:Program}{p:Ren}{S:St}{w:World}(h:RH p S w){t b off r base n:Nat}{g:GV}(j:M5A P t S b off=some g)(B:p b=some (r,base,n)) :
    ∃ v,(Instr.loadAt t (.pointer (some ⟨r,base+off,none⟩))).run P w=.ok v w∧RV p g v:=by
  unfold M5A at j
  split at j
  · rename_i l A
    unfold part at j
    split at j
    · rename_i ha
      split at j
      · rename_i k E
        obtain ⟨m,h1,rfl⟩:=Option.map_eq_some_iff.1 j;obtain ⟨vs,q,D,u⟩:=h.cells B A h1;subst D;exact ⟨_,R8 (Mo:=[]) (fun w=>⟨M1d ha w,RE E w⟩) u (fun _ h=>h) w (Ev.refl _ _),vs,rfl,q⟩
      · cases j
    · rename_i ha
      obtain ⟨v,q,u⟩:=h.cell B A j;refine ⟨v,?_,q⟩;simp only [Instr.loadAt,Instr.sureAddr];show (loadVar t ⟨r,base+off,none⟩).run P w=_
      unfold loadVar;rw [run_bind,M1d ha];have:=u.at_ 0 v rfl;simp only [Nat.add_zero] at this;simp [Go.load,Sem.run,this]
    · cases j
  · cases j
theorem Ma7 {P:Program}{N:Nat→Prop}{p:Ren}{S:St}{w:World}(h:RH p S w){t b off r base n:Nat}{g:GV}(q:M5A P t S b off=some g)(u:p b=some (r,base,n)) :
    Giv P N p w (Instr.loadAt t (.pointer (some ⟨r,base+off,none⟩))) g S:=by
  obtain ⟨v,h1,j⟩:=M5F h q u;exact Giv.pure h h1 j
theorem M8X {P:Program}{p:Ren}{S S':St}{w:World}(h:RH p S w){t b off r base n k:Nat}{x:GV}{v:Value}(u:Xl P t=some k)(A:x.ats.length=k)(hs:M0w S b off x.ats=some S')(q:p b=some (r,base,n))(hv:RV p x v) :
    ∃ w',(Instr.storeAt t (.pointer (some ⟨r,base+off,none⟩)) v).run P w=.ok () w'∧RH p S' w'∧Ch (fun _=>False) p w p w':=by
  obtain ⟨w',h1,g,j⟩:=h.store (P:=P) q hs hv.ats;refine ⟨w',?_,g,j⟩;simp only [Instr.storeAt,Instr.sureAddr];show (storeVar t ⟨r,base+off,none⟩ v).run P w=_
  unfold storeVar;rw [run_bind,RE u];simp only;rw [if_neg (by have:=hv.ats.length; rw [Array.length_toList] at this; omega)];exact h1
theorem M81 (vs:List Value):∀ (k off:Nat) (cs:List Value),off+k+vs.length≤cs.length→
    ((vs.zipIdx k).foldl (fun (cs:Array Value) (x:Value×Nat)=>cs.setIfInBounds (off+x.2) x.1) cs.toArray)=(cs.take (off+k)++(vs++cs.drop (off+k+vs.length))).toArray:=by
  induction vs with
  | nil=>intro k off cs _; simp
  | cons v vs g=>
    intro k off cs h;simp only [List.length_cons] at h;simp only [List.zipIdx_cons,List.foldl_cons,List.setIfInBounds_toArray];rw [g (k+1) off (cs.set (off+k) v) (by simp; omega)]
    congr 1
    have:=list_seg_step cs (off+k) v vs (by omega);simp only [List.length_cons,List.append_assoc] at this ⊢
    simpa [Nat.add_assoc] using this
def RVp (p:Ren):List (Nat×GV)→List (Nat×Value)→Prop
  | [],[]=>True
  | (i,g)::l,(j,v)::vs=>(i=j∧RV p g v)∧RVp p l vs
  | [],_::_=>False
  | _::_,[]=>False
theorem M2A {p:Ren}{D:Nat→Option (Nat×Nat)}:∀ {l:List (Nat×GV)} {r:List (Nat×Value)} {cells c:List GV} {vs:List Value},RVp p l r→Ry p cells vs→M09 D cells l=some c→
    ∃ q,Instr.fill D vs.toArray r=some q.toArray∧Ry p c q
  | [],[],cells,c,vs,_,hv,h=>by cases h; exact ⟨vs,rfl,hv⟩
  | (i,g)::l,(j,v)::r,cells,c,vs,⟨⟨e,h1⟩,h2⟩,hv,h=>by
    subst e;unfold M09 at h;unfold Instr.fill
    split at h
    · cases h
    · rename_i off size H
      split at h
      · rename_i B
        have B:=Nat.eq_of_beq_eq_true B
        split at h
        · rename_i J G
          obtain ⟨U,X,rfl⟩:=M43 G;have ha:=h1.ats;have u:=ha.length;rw [Array.length_toList] at u;have O:=hv.length;have I:Ry p (cells.take off++(g.ats++cells.drop (off+g.ats.length))) (vs.take off++(v.cells.toList++vs.drop (off+g.ats.length))):=(hv.take off).append (ha.append (hv.drop _));obtain ⟨q,E,F⟩:=M2A h2 I h;refine ⟨q,?_,F⟩;rw [H];simp only;rw [if_neg (by simp; omega)];rw [← E]
          congr 1
          have A:=M81 v.cells.toList 0 off vs (by rw [Array.length_toList]; omega);simp only [Nat.add_zero,Array.length_toList] at A;rw [← u,← A,← Array.foldl_toList,Array.toList_zipIdx]
        · cases h
      · cases h
  | [],_::_,_,_,_,h,_,_=>h.elim
  | _::_,[],_,_,_,h,_,_=>h.elim
theorem Ma8 {α β:Type}{P:Program}(f:α→β)(s:Sem α)(w:World):(f <$> s).run P w=match s.run P w with | .ok a w'=>.ok (f a) w' | .halt h w'=>.halt h w':=by
  rw [map_eq_pure_bind,run_bind];cases s.run P w <;> rfl
theorem M3i {P:Program}:∀ {fs:List Field} {pl:List (Nat×Nat)},M1a P fs=some pl→∀ w,(fs.mapM (fun f=>do pure (f.offset,← sizeOf f.type):Field→Sem (Nat×Nat))).run P w=.ok pl w
  | [],pl,h,w=>by cases h; rfl
  | f::fs,pl,h,w=>by
    unfold M1a at h
    split at h
    · rename_i n g
      split at h
      · rename_i r j
        cases h;rw [List.mapM_cons,run_bind,run_bind,RE g];simp only [Sem.run_pure];rw [run_bind,M3i j];rfl
      · cases h
    · cases h
theorem M4D {P:Program}{p:Ren}{t:Nat}{z c:List GV}{j:List (Nat×GV)}{r:List (Nat×Value)}{fs:Array Field}{pl:List (Nat×Nat)}(I:XD P t=some z)(F:RVp p j r)(H:P.underlying t=some (.struct fs))
    (G:M1a P fs.toList=some pl) (D:M09 (fun i=>pl[i]?) z j=some c) (w:World):∃ v,(Instr.build t r.toArray).run P w=.ok v w∧RV p (.agg c) v:=by
  obtain ⟨i,zv,h1,J,u,A⟩:=V3 (p:=p) I;obtain ⟨q,g,B⟩:=M2A F u D;refine ⟨.agg q.toArray,?_,q,rfl,B⟩;unfold Instr.build;rw [run_bind,A];simp only;rw [run_bind,run_underlying H];simp only;have E:(fs.mapM (fun f=>do pure (f.offset,← sizeOf f.type):Field→Sem (Nat×Nat))).run P w=.ok pl.toArray w:=by
    obtain ⟨l⟩:=fs;rw [List.mapM_toArray,Ma8,M3i G]
  rw [run_bind,E];simp only;have e:(fun (x:Nat)=>pl.toArray[x]?)=fun i=>pl[i]?:=by funext i; simp
  rw [e];simp only [Array.toArray_toList] at g;rw [g];rfl
theorem M5G {P:Program}{p:Ren}{t e m n:Nat}{z c:List GV}{j:List (Nat×GV)}{r:List (Nat×Value)}(H:XD P t=some z)(F:RVp p j r)(G:P.underlying t=some (.array m e))
    (E:Xl P e=some n) (D:M09 (fun i=>some (i*n,n)) z j=some c) (w:World):∃ v,(Instr.build t r.toArray).run P w=.ok v w∧RV p (.agg c) v:=by
  obtain ⟨i,zv,h1,I,u,A⟩:=V3 (p:=p) H;obtain ⟨q,g,B⟩:=M2A F u D;refine ⟨.agg q.toArray,?_,q,rfl,B⟩;unfold Instr.build;rw [run_bind,A];simp only;rw [run_bind,run_underlying G];simp only;rw [run_bind,RE E];simp only [Array.toArray_toList] at g ⊢;rw [g];rfl
theorem M45 (zs:List Value):∀ (len n:Nat),zs.length=n→(List.range (len*n)).map (fun i=>zs.toArray[i%zs.toArray.size]!)=(List.replicate len zs).flatten
  | 0,n,_=>by simp
  | len+1,n,h=>by
    have j:=M45 zs len n h;rw [Nat.add_mul,Nat.one_mul,Nat.add_comm,List.range_add,List.map_append,List.map_map,List.replicate_succ,List.flatten_cons]
    congr 1
    · apply List.ext_getElem (by simp [h]);intro i h1 g;simp only [List.size_toArray,List.getElem_map,List.getElem_range];rw [Nat.mod_eq_of_lt (by omega)];simp [g]
    · rw [← j];apply List.map_congr_left;intro i q;simp only [Function.comp,List.size_toArray];subst h;rw [Nat.add_mod_left]
theorem M6K {p:Ren}{z:List GV}{zs:List Value}(h:Ry p z zs){n len:Nat}(j:z.length=n):Ry p (rep len z) ((Array.range (len*n)).map (fun i=>zs.toArray[i%zs.toArray.size]!)).toList:=by
  obtain ⟨q,h1,g⟩:=h.rep len;have:=M45 zs len n (by rw [h.length,j]);rw [Array.toList_map,Array.toList_range,this,← g];exact h1
theorem M5H {z:List GV}{n len:Nat}(j:z.length=n)(g:len*n=0):rep len z=[]:=by
  induction len with
  | zero=>rfl
  | succ k q=>
    have:n=0:=by
      rcases Nat.mul_eq_zero.1 g with h | h
      · omega
      · exact h
    subst this;unfold rep;rw [q (by simp),List.length_eq_zero_iff.1 j];rfl
theorem M3j {P:Program}{p:Ren}{w:World}{t e n len:Nat}{z c:List GV}{B:List (Nat×GV)}{r:List (Nat×Value)}(J:P.underlying t=some (.slice e))(X:Xl P e=some n)(O:XD P e=some z)(Z:len*n≤65536)(A:z.length=n)
    (H:RVp p B r) (G:M09 (fun i=>some (i*n,n)) (rep len z) B=some c) :
    ∃ j,Ry p c j∧(Instr.buildSlice t len r.toArray).run P w=.ok (.slice (some ⟨w.heap.size,0,none⟩) len len) (w.alloc (.cells j.toArray e (0,0))):=by
  obtain ⟨i',zv,h1,Y,D,E⟩:=V3 (p:=p) O;have u:∀ zero:Array Value,Ry p (rep len z) ((Array.range (len*n)).map (zero[· % zero.size]!)).toList→((len*n=0∧zero = #[])∨(len*n≠0∧zero=zv.cells))→
      ∃ j,Ry p c j∧(Instr.buildSlice t len r.toArray).run P w=.ok (.slice (some ⟨w.heap.size,0,none⟩) len len) (w.alloc (.cells j.toArray e (0,0))):=by
    intro zero I U;obtain ⟨j,q,F⟩:=M2A H I G;refine ⟨j,F,?_⟩;rw [Array.toArray_toList] at q;unfold Instr.buildSlice;rw [run_bind,run_underlying J];simp only;rw [run_bind,RE X];simp only;rw [if_neg (by omega)];rcases U with ⟨g,rfl⟩ | ⟨g,rfl⟩
    · rw [if_pos g];simp only [pure_bind];rw [q];simp only [newRow,run_bind];rfl
    · rw [if_neg g,run_bind,E];simp only [pure_bind];rw [q];simp only [newRow,run_bind];rfl
  by_cases g:len*n=0
  · refine u #[] ?_ (.inl ⟨g,rfl⟩);rw [M5H A g,g];simp [Ry]
  · refine u zv.cells ?_ (.inr ⟨g,rfl⟩);have:=M6K D A (len:=len)
    rwa [Array.toArray_toList] at this
theorem M3N {P:Program}{p:Ren}{S S':St}{w:World}(h:RH p S w){t e n len name:Nat}{z c:List GV}{g:List (Nat×GV)}{r:List (Nat×Value)}(D:elB P t=some (e,n))(X:XD P e=some z)(G:len*n≤65536)(Y:z.length=n)
    (I:RVp p g r) (E:M09 (fun i=>some (i*n,n)) (rep len z) g=some c) (B:newB S name c=some S') (H:X9 p name) (U:name<S.nx) :
    Giv P (· = name) p w (Instr.buildSlice t len r.toArray) (.sl name 0 len (.kn len)) S':=by
  obtain ⟨O,i,F,J,Z⟩:=Xd D;obtain ⟨us,u,A⟩:=M3j (P:=P) (w:=w) O (show Xl P e=some n by simp [Xl,F,J]) X G Y I E;obtain ⟨j,q⟩:=h.row (ty:=e) (fz:=(0,0)) [] B H U u (.inl rfl);rw [List.append_nil] at j q;exact ⟨_,.slice (some ⟨w.heap.size,0,none⟩) len len,_,A,⟨w.heap.size,0,_,len,Ren.set_same _ _ _,rfl,rfl,Nat.le_refl _⟩,j,q⟩
theorem M4E {P:Program}{p:Ren}{S S':St}{w:World}(h:RH p S w){t e n name:Nat}{z:List GV}{k k':IntKind}{l c:Int}(U:elB P t=some (e,n))(hz:XD P e=some z)(X:0≤l∧l≤c∧c≤65536∧z.length=n)
    (H:newB S name (rep c.toNat z)=some S') (hn:X9 p name) (hx:name<S.nx) :
    Giv P (· = name) p w (Instr.makeSlice t (.int k l) (.int k' c)) (.sl name 0 l.toNat (.kn c.toNat)) S':=by
  obtain ⟨hu,i,q,ac,O⟩:=Xd U;obtain ⟨i',zv,h1,h2,F,G⟩:=V3 (p:=p) hz;obtain ⟨l0,l1,l2,u⟩:=X;have ai:Xl P e=some n:=by simp [Xl,q,ac]
  have wr:∀ x:Int,0≤x→x≤65536→IntKind.i64.wrap x=x:=fun x g h1=>by
    have Y:x<(2 ^ IntKind.i64.bits:Int):=by show x<18446744073709551616; omega
    have:x%(2 ^ IntKind.i64.bits:Int)=x:=Int.emod_eq_of_lt g Y;simp only [IntKind.wrap,this];rw [if_neg];show ¬ ((true&&decide (x≥9223372036854775808))=true)
    simp only [Bool.true_and,decide_eq_true_eq];omega
  obtain ⟨m,rfl⟩:=Int.eq_ofNat_of_zero_le (show 0≤c by omega);obtain ⟨j,rfl⟩:=Int.eq_ofNat_of_zero_le l0;have Z:m≤65536:=by omega
  have ao:i.bytes*m≤4096*65536:=Nat.mul_le_mul O Z;have ap:m*i.bytes≤268435456:=by rw [Nat.mul_comm]; omega
  have r:∀ zero:Array Value,Ry p (rep m z) ((Array.range (m*n)).map (zero[· % zero.size]!)).toList→((m*n=0∧zero = #[])∨(m*n≠0∧zero=zv.cells))→
      Giv P (· = name) p w (Instr.makeSlice t (.int k j) (.int k' m)) (.sl name 0 j (.kn m)) S':=by
    intro zero hr ah;have I:newB S name (rep m z)=some S':=by simpa using H
    obtain ⟨q1,q2⟩:=h.row (ty:=e) (fz:=(0,0)) [] I hn hx hr (.inl rfl);refine ⟨_,.slice (some ⟨w.heap.size,0,none⟩) j m,_,?_,⟨w.heap.size,0,_,m,Ren.set_same _ _ _,rfl,rfl,by omega⟩,q1,q2⟩;unfold Instr.makeSlice;rw [run_bind,run_underlying hu];simp only;have ad:(typeInfo e).run P w=.ok i w:=by simp [typeInfo,q]
    simp only [asInt,asIntOf,pure_bind];rw [run_bind,ad];simp only;have A:((i.bytes:Int)*(m:Int)>2 ^ 48)=False:=by
      simp only [eq_iff_iff,iff_false,Int.not_lt];have:((i.bytes*m:Nat):Int)≤2 ^ 48:=by omega
      simpa using this
    rw [wr m (by omega) (by omega),wr j (by omega) (by omega)];have B:¬ ((m:Int)<0):=by omega
    have D:¬ ((j:Int)<0):=by omega
    have E:¬ ((j:Int)>(m:Int)):=by omega
    simp only [A,B,D,E,decide_false,Bool.or_false,Bool.false_eq_true,if_false];have J:(askRoom (m*i.bytes)).run P w=.ok () w:=by
      unfold askRoom roomBytes;rw [if_neg (by omega)];rfl
    simp only [Int.toNat_natCast];rw [run_bind,J];simp only;rw [run_bind,RE ai];simp only;rcases ah with ⟨g,rfl⟩ | ⟨g,rfl⟩
    · rw [if_pos g];simp only [pure_bind,newRow,run_bind,List.append_nil];rfl
    · rw [if_neg g,run_bind,G];simp only [pure_bind,newRow,run_bind,List.append_nil];rfl
  by_cases g:m*n=0
  · refine r #[] ?_ (.inl ⟨g,rfl⟩);rw [M5H u g,g];simp [Ry]
  · refine r zv.cells ?_ (.inr ⟨g,rfl⟩);have:=M6K F u (len:=m)
    rwa [Array.toArray_toList] at this
theorem M8Y {P:Program}{p:Ren}{S S':St}{w:World}(h:RH p S w){t name:Nat}{z:List GV}(A:XD P t=some z)(q:newB S name z=some S')(r:X9 p name)(u:name<S.nx) :
    Giv P (· = name) p w (Instr.alloc t true (.tuple #[])) (.ptr name 0) S':=by
  obtain ⟨i,zv,h1,E,g,j⟩:=V3 (p:=p) A;obtain ⟨B,D⟩:=h.row (ty:=t) (fz:=(0,0)) [] q r u g (.inl rfl);refine ⟨_,.pointer (some ⟨w.heap.size,0,none⟩),_,?_,⟨w.heap.size,0,_,Ren.set_same _ _ _,rfl⟩,B,D⟩;simp only [Instr.alloc];rw [run_bind,j];simp only [newVar,newRow,run_bind,List.append_nil,Array.toArray_toList];rfl
theorem Mbe {P:Program}{p:Ren}{S S':St}{w:World}(h:RH p S w){t name:Nat}{g:GV}{v:Value}(hv:RV p g v)(j:newB S name g.ats=some S')(q:X9 p name)(r:name<S.nx) :
    Giv P (· = name) p w (Instr.box t v) (.ptr name 0) S':=by
  obtain ⟨u,A⟩:=h.row (ty:=t) (fz:=(0,0)) [] j q r hv.ats (.inl rfl);refine ⟨_,.pointer (some ⟨w.heap.size,0,none⟩),_,?_,⟨w.heap.size,0,_,Ren.set_same _ _ _,rfl⟩,u,A⟩;simp only [Instr.box,newVar,newRow,run_bind,List.append_nil,Array.toArray_toList];rfl
theorem M6L {P:Program}{p:Ren}{S S':St}{w:World}(h:RH p S w){t name:Nat}(g:S.put name (some (.map []))=some S')(j:X9 p name)(r:name<S.nx) :
    Giv P (· = name) p w (Instr.makeMap t none) (.map name) S':=by
  obtain ⟨u,A⟩:=h.new (base:=0) (n:=0) (o:=.map #[] 0) g j r fun q B=>⟨#[],0,W2 _ _,trivial⟩
  exact ⟨_,.map (some w.heap.size),_,rfl,⟨w.heap.size,Ren.set_same _ _ _,rfl⟩,u,A⟩
theorem M0a {P:Program}{s f o t:Nat}(h:Yo P s f=some (o,t)):∃ fs g,P.underlying s=some (.struct fs)∧fs[f]? = some g∧g.offset=o∧g.type=t:=by
  unfold Yo at h
  split at h
  · rename_i fs q
    split at h
    · rename_i g j
      cases h;exact ⟨fs,g,q,by simpa using j,rfl,rfl⟩
    · cases h
  · cases h
theorem M4F {P:Program}{s f o t n:Nat}(h:Yo P s f=some (o,t))(u:Xl P t=some (n+1))(r off:Nat)(w:World) :
    (Instr.fieldAt s (.pointer (some ⟨r,off,none⟩)) f).run P w=.ok (.pointer (some ⟨r,off+o,none⟩)) w:=by
  obtain ⟨fs,A,h1,g,j,q⟩:=M0a h;unfold Instr.fieldAt;rw [run_bind,run_underlying h1];simp only [g];rw [run_bind];simp only [Instr.sureAddr,Sem.run_pure];rw [run_bind];unfold fieldPlace;rw [run_bind,q,RE u];simp only [Nat.add_eq_zero_iff,Nat.one_ne_zero,and_false,if_false,Sem.run_pure,j];rw [MM rfl]
theorem M8Z {P:Program}{p:Ren}{s f o t:Nat}{l:List GV}{vs:List Value}{g:GV}(h:Yo P s f=some (o,t))(B:part P t l o=some g)(hv:Ry p l vs)(w:World) :
    ∃ v,(Instr.field s (.agg vs.toArray) f).run P w=.ok v w∧RV p g v:=by
  obtain ⟨fs,D,h1,j,q,r⟩:=M0a h;subst q r;obtain ⟨v,u,A⟩:=M2z B hv w;refine ⟨v,?_,A⟩;unfold Instr.field;rw [run_bind,run_underlying h1];simp only [j];rw [run_bind];simp only [asAgg,Sem.run_pure];exact u
theorem M1R {i:GV}{len k:Nat}(h:M8R i len=some k):∃ q n,i=.int q n∧0≤n∧n<len∧n.toNat=k:=by
  unfold M8R at h
  split at h
  · rename_i q n
    split at h
    · rename_i g; cases h; exact ⟨q,n,rfl,g.1,g.2,rfl⟩
    · cases h
  · cases h
theorem M4G {P:Program}{p:Ren}{t:Nat}{x i g:GV}{vx u:Value}(h:M0x P t x i=some g)(G:RV p x vx)(j:RV p i u)(w:World):∃ v,(Instr.indexAt t vx u).run P w=.ok v w∧RV p g v:=by
  unfold M0x at h
  split at h
  · rename_i e b off len c F
    split at h
    · rename_i k es E D
      cases h;obtain ⟨q,n,rfl,A,h1,rfl⟩:=M1R E;obtain ⟨r,base,m,cap,B,rfl,H⟩:=G;have j:u=.int q n:=j;subst j;refine ⟨.pointer (some ⟨r,base+(off+n.toNat*es),none⟩),?_,r,base,m,B,rfl⟩;simp only [Instr.indexAt,asIntOf,Sem.run_bind,Sem.run_pure,Result.andThen_ok,run_underlying F,A,h1,and_self,if_true,RE D,MM,Nat.add_assoc]
    · cases h
  · cases h
theorem M90 {P:Program}{p:Ren}{t:Nat}{x i g:GV}{vx u:Value}(h:M6E P t x i=some g)(r:RV p x vx)(j:RV p i u)(w:World):∃ v,(Instr.index t vx u).run P w=.ok v w∧RV p g v:=by
  unfold M6E at h
  split at h
  · rename_i n e l E
    split at h
    · rename_i k es D I
      obtain ⟨q,m,rfl,A,h1,rfl⟩:=M1R D;obtain ⟨vs,rfl,hv⟩:=r;have j:u=.int q m:=j;subst j;obtain ⟨v,G,B⟩:=M2z h hv w;refine ⟨v,?_,B⟩;unfold Instr.index;simp only [asIntOf,pure_bind];rw [run_bind,run_underlying E];simp only [A,h1,and_self,if_true];rw [run_bind,RE I];exact G
    · cases h
  · rename_i s E
    split at h
    · rename_i k D
      split at h
      · rename_i b F
        cases h;obtain ⟨q,m,rfl,A,h1,rfl⟩:=M1R D;have r:vx=Vs s:=r;subst r;have j:u=.int q m:=j;subst j;refine ⟨.int .u8 b.toNat,?_,rfl⟩;rw [run_index_string w t _ q m E,dif_pos ⟨A,h1⟩];have B:s[m.toNat]'(by omega)=b:=by rw [List.getElem?_eq_getElem (by omega)] at F; exact Option.some.inj F
        have H:(⟨⟨s⟩⟩:ByteArray)[m.toNat]'(by show m.toNat<s.length; omega)=b:=B;rw [H]
      · cases h
    · cases h
  · cases h
theorem Yq {P:Program}{p:Ren}{x:GV}{d m k:Nat}{v:Value}(h:Vc (some x) d m=some k)(hv:RV p x v)(c:BoundsCode)(w:World):k≤m∧(Instr.sliceBound v m c).run P w=.ok k w:=by
  unfold Vc at h
  split at h
  · rename_i e; cases e
  · rename_i q n e
    cases e
    split at h
    · rename_i g
      cases h;have hv:v=.int q n:=hv;subst hv;refine ⟨by omega,?_⟩;simp only [Instr.sliceBound,asIntOf,Sem.run_bind,Sem.run_pure,Result.andThen_ok,g,and_self,if_true]
    · cases h
  · cases h
theorem M1e {d m k:Nat}(h:Vc none d m=some k):k=d∧d≤m:=by
  by_cases hd:d≤m
  · simp only [Vc,if_pos hd,Option.some.injEq] at h; exact ⟨h.symm,hd⟩
  · simp only [Vc,if_neg hd] at h; cases h
theorem M5I {x:GV}{d m m' k:Nat}(h:Vc (some x) d m=some k)(j:m≤m'):Vc (some x) d m'=some k∧k≤m:=by
  unfold Vc at h ⊢;cases x <;> simp only at h ⊢ <;> first | (cases h; done) | skip
  rename_i q n
  by_cases g:0≤n∧n≤m
  · rw [if_pos g] at h;cases h;exact ⟨by rw [if_pos ⟨g.1,by omega⟩],by omega⟩
  · rw [if_neg g] at h; cases h
def RO (p:Ren):Option GV→Option Value→Prop
  | none,none=>True
  | some g,some v=>RV p g v
  | none,some _=>False
  | some _,none=>False
theorem M2B {P:Program}{p:Ren}{isS:Bool}{len cap h l kc:Nat}{A F:Option GV}{j B:Option Value}(h1:Vc F len kc=some h)(r:Vc A 0 h=some l)(g:RO p A j)(E:RO p F B)(O:kc≤cap)(w:World) :
    (Instr.sliceBounds isS len cap j B none).run P w=.ok (l,h,cap) w∧l≤h∧h≤kc:=by
  cases F with
  | none=>
    cases B with
    | some _=>exact E.elim
    | none=>
      obtain ⟨e,q⟩:=M1e h1;subst e;cases A with
      | none=>
        cases j with
        | some _=>exact g.elim
        | none=>
          obtain ⟨e,D⟩:=M1e r;subst e;exact ⟨rfl,D,q⟩
      | some x=>
        cases j with
        | none=>exact g.elim
        | some v=>
          obtain ⟨G,H⟩:=Yq (P:=P) r g .sliceB w;refine ⟨?_,G,q⟩;unfold Instr.sliceBounds;simp only [pure_bind,Option.isSome_none,Bool.false_eq_true,if_false];rw [run_bind,H];rfl
  | some y=>
    cases B with
    | none=>exact E.elim
    | some u=>
      obtain ⟨J,q⟩:=M5I h1 O;have I:=fun c=>(Yq (P:=P) J E c w).2
      cases A with
      | none=>
        cases j with
        | some _=>exact g.elim
        | none=>
          obtain ⟨e,D⟩:=M1e r;subst e;refine ⟨?_,D,q⟩;unfold Instr.sliceBounds;simp only [pure_bind];rw [run_bind,I];rfl
      | some x=>
        cases j with
        | none=>exact g.elim
        | some v=>
          obtain ⟨G,H⟩:=Yq (P:=P) r g .sliceB w;refine ⟨?_,G,q⟩;unfold Instr.sliceBounds;simp only [pure_bind,Option.isSome_none,Bool.false_eq_true,if_false];rw [run_bind,I];simp only;rw [run_bind,H];rfl
theorem M7u {P:Program}{p:Ren}{isS:Bool}{len cap h l m kc:Nat}{A F:GV}{g:Option Value}{G H:Value}{q:Option GV}(O:Vc (some F) 0 kc=some m)(h1:Vc (some A) 0 m=some h)(u:Vc q 0 h=some l)(j:RO p q g)(X:RV p A G)
    (Y:RV p F H) (U:kc≤cap) (w:World):(Instr.sliceBounds isS len cap g (some G) (some H)).run P w=.ok (l,h,m) w∧l≤h∧h≤m∧m≤kc:=by
  obtain ⟨I,r⟩:=M5I O U;have B:=fun c=>(Yq (P:=P) I Y c w).2
  obtain ⟨D,E⟩:=Yq (P:=P) h1 X .slice3B w;cases q with
  | none=>
    cases g with
    | some _=>exact j.elim
    | none=>
      obtain ⟨e,J⟩:=M1e u;subst e;refine ⟨?_,J,D,r⟩;unfold Instr.sliceBounds;simp only;rw [run_bind,B];simp only;rw [run_bind,E];rfl
  | some x=>
    cases g with
    | none=>exact j.elim
    | some v=>
      obtain ⟨Z,k4⟩:=Yq (P:=P) u j .slice3C w;refine ⟨?_,Z,D,r⟩;unfold Instr.sliceBounds;simp only [Option.isSome_some,if_true];rw [run_bind,B];simp only;rw [run_bind,E];simp only;rw [run_bind,k4];rfl
theorem M82 {P:Program}{t e:Nat}{q j H:Option GV}{p:Ren}{F r g:Option Value}{Z x2 x3:Nat}(Y:P.underlying t=some (.slice e))(h1:Vc q 0 0=some Z)(u:Vc j 0 0=some x2)(A:Vc H 0 0=some x3)
    (X:q=none∨j≠none) (G:RO p H F) (D:RO p j r) (E:RO p q g) (B:∃ n,Xl P e=some n) (w:World):(Instr.sliceAt t (.slice none 0 0) F r g).run P w=.ok (.slice none 0 0) w:=by
  obtain ⟨n,B⟩:=B;have z:∀ {o:Option GV} {k:Nat},Vc o 0 0=some k→k=0:=by
    intro o k h;unfold Vc at h
    split at h
    · rw [if_pos (Nat.le_refl _)] at h; cases h; rfl
    · split at h
      · cases h; omega
      · cases h
    · cases h
  have I:=z h1;have J:=z u;have O:=z A;subst I J O;have U:(Instr.sliceBounds true 0 0 F r g).run P w=.ok (0,0,0) w:=by
    cases q with
    | none=>
      cases g with
      | none=>exact (M2B (kc:=0) u A G D (Nat.le_refl _) w).1
      | some _=>exact E.elim
    | some m=>
      cases g with
      | none=>exact E.elim
      | some vm=>
        cases j with
        | none=>rcases X with h | h; cases h; exact absurd rfl h
        | some hx=>
          cases r with
          | none=>exact D.elim
          | some vh=>exact (M7u (kc:=0) h1 u A G D E (Nat.le_refl _) w).1
  simp only [Instr.sliceAt,Instr.slice,Sem.run_bind,run_underlying Y,Result.andThen_ok,U,RE B,Sem.run_pure];rfl
theorem ZT {P:Program}{t e es len cap l h m r off:Nat}{j g q:Option Value}(B:P.underlying t=some (.slice e))(A:Xl P e=some es)(w:World)(u:(Instr.sliceBounds true len cap j g q).run P w=.ok (l,h,m) w) :
    (Instr.sliceAt t (.slice (some ⟨r,off,none⟩) len cap) j g q).run P w=.ok (.slice (some ⟨r,if m=l then off else off+l*es,none⟩) (h-l) (m-l)) w:=by
  simp only [Instr.sliceAt,Instr.slice,Sem.run_bind,run_underlying B,Result.andThen_ok,u,RE A,Sem.run_pure]
  split
  · rfl
  · simp only [Option.map,MM]
theorem RH.known {p:Ren}{S:St}{w:World}(h:RH p S w){b r base n:Nat}{l:List GV}(u:p b=some (r,base,n))(q:S.h.get b=some (.cells l)):l.length≤n:=by
  obtain ⟨cs,ty,fz,h1,A,B,vs,g,j⟩:=h.at_ b r base n _ u q;have:=j.length_le;have:=g.length;simp only [List.length_drop,Array.length_toList] at *
  omega
theorem M91 {P:Program}{p:Ren}{S:St}{w:World}(h:RH p S w){t:Nat}{x g:GV}{lo Y Z:Option GV}{vx:Value}{ag aa D:Option Value}(hs:M6D P t S x lo Y Z=some g)(q:RV p x vx)(I:RO p lo ag)(A:RO p Y aa)(B:RO p Z D) :
    ∃ v,(Instr.sliceAt t vx ag aa D).run P w=.ok v w∧RV p g v:=by
  unfold M6D at hs
  split at hs
  · -- strings
    rename_i s j
    have q:vx=Vs s:=q;subst q
    split at hs
    · cases hs
    · split at hs
      · rename_i J h1
        split at hs
        · rename_i l O
          cases hs;cases D with
          | some _=>exact B.elim
          | none=>
            refine ⟨Vs ((s.drop l).take (J-l)),?_,rfl⟩;have am:(⟨⟨s⟩⟩:ByteArray).size=s.length:=rfl;obtain ⟨E,_⟩:=M2B (P:=P) (isS:=false) h1 O I A (Nat.le_refl _) w;have he:∀ a b,(⟨⟨s⟩⟩:ByteArray).extract a b=⟨⟨(s.drop a).take (b-a)⟩⟩:=fun a b=>ByteArray.extract_mk s a b
            simp only [Instr.sliceAt,Instr.slice,Sem.run_bind,run_underlying j,Result.andThen_ok,Option.isSome_none,Bool.false_eq_true,if_false,Sem.run_pure,am,E,he]
        · cases hs
      · cases hs
  · -- nil
    rename_i e j
    split at hs
    · rename_i x1 x2 x3 h1 O E
      split at hs
      · cases hs
      · rename_i ak
        split at hs
        · rename_i n hn
          cases hs;have q:vx=.slice none 0 0:=q;subst q;refine ⟨.slice none 0 0,M82 j h1 O E ?_ I A B ⟨n,hn⟩ w,rfl⟩;cases Z with
          | none=>exact .inl rfl
          | some m=>
            cases Y with
            | none=>exact absurd rfl (ak m rfl)
            | some _=>exact .inr (by simp)
        · cases hs
    · cases hs
  · -- a capacity that is known
    rename_i e b off len c j
    obtain ⟨r,base,n,cap,h1,rfl,rfl,E⟩:=q
    split at hs
    · cases hs
    · rename_i es H
      split at hs
      · cases D with
        | some _=>exact B.elim
        | none=>
          split at hs
          · cases hs
          · rename_i J F
            split at hs
            · cases hs
            · rename_i l G
              cases hs;obtain ⟨u,U,h8⟩:=M2B (P:=P) (isS:=true) F G I A (Nat.le_refl _) w;refine ⟨_,ZT j H w u,r,base,n,cap-l,h1,?_,rfl,by omega⟩
              congr 2
              split <;> simp [Nat.add_assoc]
      · cases hs
  · -- a capacity that is not known
    rename_i e b off len es j
    obtain ⟨r,base,n,cap,h1,rfl,E,ap⟩:=q
    split at hs
    · rename_i an cs H hg
      split at hs
      · rename_i X ae
        have X:=Nat.eq_of_beq_eq_true X;have ae:=Nat.le_of_ble_eq_true ae;subst X;have hk:=h.known h1 hg;have ad:(cs.length-off) / es≤cap:=by
          apply Nat.div_le_of_le_mul;rw [Nat.mul_comm]; omega
        split at hs
        · rename_i mm
          split at hs
          · cases hs
          · rename_i ar
            split at hs
            · cases hs
            · rename_i m F
              split at hs
              · cases hs
              · rename_i J G
                split at hs
                · cases hs
                · rename_i l u
                  cases hs;cases D with
                  | none=>exact B.elim
                  | some vm=>
                    cases aa with
                    | none=>exact A.elim
                    | some vh=>
                      obtain ⟨U,h8,h9,ao⟩:=M7u (P:=P) (isS:=true) (len:=len) (cap:=cap) F G u I A B ad w;refine ⟨_,ZT j H w U,r,base,n,m-l,h1,?_,rfl,by omega⟩
                      congr 2
                      split <;> simp [Nat.add_assoc]
        · cases D with
          | some _=>exact B.elim
          | none=>
            split at hs
            · cases hs
            · rename_i J F
              split at hs
              · cases hs
              · rename_i l G
                obtain ⟨u,U,h8⟩:=M2B (P:=P) (isS:=true) F G I A ad w
                split at hs
                · rename_i hc
                  cases hs;refine ⟨_,ZT j H w u,r,base,n,cap-l,h1,?_,?_,by omega⟩
                  · congr 2
                    split
                    · rename_i e0
                      rcases hc with rfl | hc
                      · simp
                      · omega
                    · simp [Nat.add_assoc]
                  · have:(cap-l)*es+l*es=cap*es:=by rw [← Nat.add_mul]; congr 1; omega
                    omega
                · split at hs
                  · rename_i e0
                    cases hs;refine ⟨_,ZT j H w u,_,_,by rw [e0,Nat.sub_self]⟩
                  · cases hs
      · cases hs
    · cases hs
  · cases hs
theorem Yr (l:List UInt8):(⟨⟨l⟩⟩:ByteArray).toList=l:=by rw [ByteArray.toList_eq]
theorem M5J {p:Ren}{d:TypeDesc}{a b:GV}{j q:Value}{r:Bool}(h:M8S d a b=some r)(ha:RV p a j)(g:RV p b q):Instr.sameNow d j q=some r∧(r=true→j=q∧Instr.sameBits 10000 j q=true):=by
  unfold M8S at h
  split at h
  · have ha:j=.int _ _:=ha;have g:q=.int _ _:=g;subst ha g
    split at h
    · rename_i e
      subst e;cases h;refine ⟨by simp [Instr.sameNow],fun h=>?_⟩;have:=eq_of_beq h;subst this;exact ⟨rfl,by simp [Instr.sameBits]⟩
    · cases h
  · have ha:j=Vs _:=ha;have g:q=Vs _:=g;subst ha g;cases h
    rename_i x y
    have e:((⟨⟨x⟩⟩:ByteArray)==⟨⟨y⟩⟩)=(x==y):=by rw [beq_toListBytes,Yr,Yr]
    refine ⟨by simp only [Instr.sameNow,e],fun h=>?_⟩;have:=eq_of_beq h;subst this;exact ⟨rfl,by simp only [Instr.sameBits,e,h]⟩
  · have ha:j=.bool _:=ha;have g:q=.bool _:=g;subst ha g;cases h;refine ⟨rfl,fun h=>?_⟩;have:=eq_of_beq h;subst this;exact ⟨rfl,by simp [Instr.sameBits]⟩
  · cases h
def RF (p:Ren):Option (Nat×GV)→Option (Nat×Value)→Prop
  | none,none=>True
  | some (i,g),some (j,v)=>i=j∧RV p g v
  | _,_=>False
theorem M1f {p:Ren}{d:TypeDesc}{k:GV}{q:Value}(A:RV p k q):∀ {es:List (GV×GV)} {Ph:List MapEntry} {i:Nat} {r:Option (Nat×GV)},RM p es Ph→M40 d k es i=some r→
    ∃ g,Instr.findNow d q Ph i=some g∧RF p r g∧∀ j v,g=some (j,v)→i≤j∧∃ e,Ph[j-i]? = some e∧e.key=q∧Instr.sameBits 10000 e.key q=true
  | [],[],i,r,_,h=>by cases h; exact ⟨none,rfl,trivial,fun j v h=>by cases h⟩
  | (a,v)::es,e::Ph,i,r,⟨⟨h1,h2⟩,h3⟩,h=>by
    unfold M40 at h;unfold Instr.findNow
    split at h
    · rename_i B
      cases h;obtain ⟨D,E⟩:=M5J B A h1;obtain ⟨F,G⟩:=E rfl;refine ⟨some (i,e.val),by simp only [D],⟨rfl,h2⟩,fun j H u=>?_⟩;cases u;refine ⟨Nat.le_refl _,e,by simp,F.symm,?_⟩;rw [← F] at G ⊢;exact G
    · rename_i B
      obtain ⟨D,E⟩:=M5J B A h1;obtain ⟨g,J,O,U⟩:=M1f A h3 h;refine ⟨g,by simp only [D]; exact J,O,fun j H u=>?_⟩;obtain ⟨Z,I,X,Y⟩:=U j H u;refine ⟨by omega,I,?_,Y⟩;rw [show j-i=(j-(i+1))+1 by omega,List.getElem?_cons_succ];exact X
    · cases h
  | [],_::_,_,_,h,_=>h.elim
  | _::_,[],_,_,h,_=>h.elim
theorem XG {P:Program}{p:Ren}{kt:Nat}{d:TypeDesc}{k:GV}{j:Value}{b:Bool}(g:P.underlying kt=some d)(hd:Mba d=true)(w:World):(Instr.checkKey b 10000 kt j).run P w=.ok () w:=by
  unfold Instr.checkKey;rw [run_bind,run_underlying g];cases d <;> first | (cases hd; done) | rfl
theorem YW {P:Program}{kt:Nat}{d:TypeDesc}{g:Value}{es:List MapEntry}{r:Option (Nat×Value)}(j:P.underlying kt=some d)(h:Instr.findNow d g es 0=some r)(w:World):(Instr.findKey kt g es).run P w=.ok r w:=by
  unfold Instr.findKey;rw [run_bind,run_underlying j];simp only [h];rfl
theorem M92 {p:Ren}{g:GV}{v:Value}(h:RV p g v)(ok b:Bool):RV p (okG ok g b) (if ok then .tuple #[v,.bool b] else v):=by
  cases ok
  · exact h
  · exact ⟨[v,.bool b],rfl,h,rfl,trivial⟩
theorem M93 {p:Ren}{S:St}{w:World}(h:RH p S w){x:GV}{vx:Value}{es:List (GV×GV)}(g:M8T S x=some es)(j:RV p x vx) :
    ∃ Ph:Array MapEntry,RM p es Ph.toList∧((vx=.map none∧Ph = #[])∨∃ r clock,vx=.map (some r)∧w.heap[r]? = some (.map Ph clock)):=by
  unfold M8T at g
  split at g
  · cases g;exact ⟨#[],trivial,.inl ⟨j,rfl⟩⟩
  · rename_i b
    split at g
    · rename_i B A
      cases g;obtain ⟨r,h1,rfl⟩:=j;obtain ⟨Ph,clock,q,u⟩:=h.at_ b r 0 0 _ h1 A;exact ⟨Ph,u,.inr ⟨r,clock,rfl,q⟩⟩
    · cases g
  · cases g
theorem M83 {P:Program}{p:Ren}{S:St}{w:World}(h:RH p S w){t:Nat}{x i g:GV}{vx F:Value}{ok:Bool}(u:M4C P t S x i ok=some g)(hx:RV p x vx)(I:RV p i F) :
    ∃ v,(Instr.lookup t vx F ok).run P w=.ok v w∧RV p g v:=by
  unfold M4C at u
  split at u
  · rename_i kt U hu
    split at u
    · rename_i d hd
      split at u
      · rename_i es J hm
        obtain ⟨Ph,h1,G⟩:=M93 h hm hx;have go:∀ r A,M40 d i es 0=some r→Instr.findNow d F Ph.toList 0=some A→∀ v b,((∃ j,A=some (j,v))∧b=true∨A=none∧b=false∧(zeroValue U).run P w=.ok v w)→(Instr.lookup t vx F ok).run P w=.ok (if ok then .tuple #[v,.bool b] else v) w:=by
          intro r A hr O v b hv;unfold Instr.lookup;rw [run_bind,run_underlying hu];simp only;rcases G with ⟨rfl,rfl⟩ | ⟨q,clock,rfl,G⟩
          · simp only [pure_bind];rw [run_bind,XG (p:=p) (k:=i) hd J];simp only;rw [run_bind,YW hd O];rcases hv with ⟨⟨j,rfl⟩,rfl⟩ | ⟨rfl,rfl,D⟩
            · rfl
            · simp only;rw [run_bind,D];rfl
          · have X:(getObj q).run P w=.ok (.map Ph clock) w:=by simp only [getObj,Sem.run,G]
            simp only;rw [run_bind,X];simp only [pure_bind];rw [run_bind,XG (p:=p) (k:=i) hd J];simp only;rw [run_bind,YW hd O];rcases hv with ⟨⟨j,rfl⟩,rfl⟩ | ⟨rfl,rfl,D⟩
            · rfl
            · simp only;rw [run_bind,D];rfl
        split at u
        · rename_i j v B
          cases u;obtain ⟨A,H,E,_⟩:=M1f I h1 B;cases A with
          | none=>exact E.elim
          | some q=>
            obtain ⟨j',v'⟩:=q;exact ⟨_,go _ _ B H v' true (.inl ⟨⟨j',rfl⟩,rfl⟩),M92 E.2 _ _⟩
        · rename_i B
          split at u
          · rename_i ah Z
            split at u
            · rename_i z D
              split at u
              · rename_i gz Y
                cases u;obtain ⟨A,H,E,_⟩:=M1f I h1 B;cases A with
                | some q=>exact E.elim
                | none=>
                  exact ⟨_,go _ _ B H z false (.inr ⟨rfl,rfl,by simp [zeroValue,typeInfo,Z,D]⟩),M92 (M5E Y) _ _⟩
              · cases u
            · cases u
          · cases u
        · cases u
      · cases u
    · cases u
  · cases u
theorem RM.setAt {p:Ren}:∀ {es:List (GV×GV)} {Ph:List MapEntry} {i:Nat} {k v:GV} {g j:Value},RM p es Ph→RV p k g→RV p v j→RM p (setAt es i k v) (Ph.modify i fun e=>{ e with key:=g,val:=j })
  | [],[],i,_,_,_,_,_,_,_=>by cases i <;> trivial
  | (a,b)::es,e::Ph,0,_,_,_,_,⟨_,h⟩,hk,hv=>⟨⟨hk,hv⟩,h⟩
  | (a,b)::es,e::Ph,i+1,k,v,g,j,⟨h1,h⟩,hk,hv=>by
    have:=RM.setAt (i:=i) h hk hv;simp only [List.modify_succ_cons];exact ⟨h1,this⟩
  | [],_::_,_,_,_,_,_,h,_,_=>h.elim
  | _::_,[],_,_,_,_,_,h,_,_=>h.elim
theorem RM.snoc {p:Ren}:∀ {es:List (GV×GV)} {Ph:List MapEntry} {k v:GV} {e:MapEntry},RM p es Ph→RV p k e.key→RV p v e.val→RM p (es++[(k,v)]) (Ph++[e])
  | [],[],_,_,_,_,hk,hv=>⟨⟨hk,hv⟩,trivial⟩
  | (a,b)::es,e::Ph,_,_,_,⟨h1,h⟩,hk,hv=>⟨h1,RM.snoc h hk hv⟩
  | [],_::_,_,_,_,h,_,_=>h.elim
  | _::_,[],_,_,_,h,_,_=>h.elim
theorem M4H {P:Program}{p:Ren}{S S':St}{w:World}(h:RH p S w){t:Nat}{m k v:GV}{vm u G:Value}(g:M1b P t S m k v=some S')(hm:RV p m vm)(A:RV p k u)(hv:RV p v G) :
    ∃ w',(Instr.mapUpdate t vm u G).run P w=.ok () w'∧RH p S' w'∧Ch (fun _=>False) p w p w':=by
  unfold M1b at g
  split at g
  · rename_i kt et b ad
    split at g
    · rename_i d es hd hg
      obtain ⟨r,h1,rfl⟩:=hm;obtain ⟨Ph,clock,J,E⟩:=h.at_ b r 0 0 _ h1 hg;have ab:(getObj r).run P w=.ok (.map Ph clock) w:=by simp only [getObj,Sem.run,J]
      have am:r<w.heap.size:=MA J;have ac:∀ o,(setObj r o).run P w=.ok () { w with heap:=w.heap.setIfInBounds r o }:=fun o=>by simp only [setObj,Sem.run,J]
      have fin:∀ (B:Array MapEntry) (D:Nat) (H:List (GV×GV)),S.put b (some (.map H))=some S'→RM p H B.toList→
          RH p S' { w with heap:=w.heap.setIfInBounds r (.map B D) }∧Ch (fun _=>False) p w p { w with heap:=w.heap.setIfInBounds r (.map B D) }:=fun B D H hS hr=>
        h.updW h1 (by rw [hg]; simp) hS (by simp) (fun k A=>by simp [Array.getElem?_setIfInBounds_ne (Ne.symm A)]) rfl rfl rfl ⟨B,D,by simp [am],hr⟩
      split at g
      · rename_i i v0 U O
        obtain ⟨X,Y,F,r3⟩:=M1f A E O;cases X with
        | none=>exact F.elim
        | some q=>
          obtain ⟨j,v'⟩:=q;obtain ⟨rfl,_⟩:=F;obtain ⟨_,e,Z,e2,e3⟩:=r3 i v' rfl;simp only [Nat.sub_zero] at Z;obtain ⟨f1,I⟩:=fin (Ph.modify i fun e=>{ e with key:=u,val:=G }) clock _ g (by
            rw [Array.toList_modify]; exact E.setAt A hv)
          refine ⟨_,?_,f1,I⟩;unfold Instr.mapUpdate;rw [run_bind,run_underlying ad];simp only;rw [run_bind,ab];simp only;rw [run_bind,XG (p:=p) (k:=k) hd U];simp only;rw [run_bind,YW hd Y];simp only;have ai:(Instr.keyThatStays (((Ph[i]?).map (·.key)).getD u) u).run P w=.ok u w:=by
            have:Ph[i]? = some e:=by rw [← Array.getElem?_toList]; exact Z
            rw [this];simp only [Option.map_some,Option.getD_some];unfold Instr.keyThatStays;rw [if_pos e3];rfl
          rw [run_bind,ai];exact ac _
      · rename_i U O
        obtain ⟨X,Y,F,r3⟩:=M1f A E O;cases X with
        | some q=>exact F.elim
        | none=>
          obtain ⟨f1,I⟩:=fin (Ph.push { key:=u,val:=G,born:=clock }) (clock+1) _ g (by
            rw [Array.toList_push]; exact E.snoc A hv)
          refine ⟨_,?_,f1,I⟩;unfold Instr.mapUpdate;rw [run_bind,run_underlying ad];simp only;rw [run_bind,ab];simp only;rw [run_bind,XG (p:=p) (k:=k) hd U];simp only;rw [run_bind,YW hd Y];exact ac _
      · cases g
    · cases g
  · cases g
theorem Ms.get {w:World}{ad:Addr}{vs:List Value}(h:Ms w [] ad vs){j:Nat}{u:Value}(g:vs[j]? = some u):w.cell? (ad.add j)=some u:=by
  rw [MM h.spot]; exact h.at_ j u g
theorem Mbf {P:Program}{p:Ren}{S:St}{w:World}(h:RH p S w){es n D:Nat}{x:GV}{vx:Value}{new:List GV}{d2:TypeDesc}(hs:M8U S es x=some (n,new))(g:RV p x vx)(B:P.underlying D=some d2)(hd:MbG d2=true)(hp:0<es)
    (J:new.all XE=true) (h1:∀ s,x=.str s→es=1):∃ O,Ry p new O∧Src P es D vx n O w:=by
  have A:(∃ U,P.underlying D=some (.slice U))∨P.underlying D=some .string:=by
    cases d2 <;> first | (cases hd; done) | exact .inl ⟨_,B⟩ | exact .inr B
  unfold M8U at hs
  split at hs
  · cases hs;have g:vx=.slice none 0 0:=g;subst g;exact ⟨[],trivial,A,fun _=>rfl,run_firstCells_none w es 0 0 0,run_firstCells_none w.drew es 0 0 0,by simp,fun _ h=>by cases h⟩
  · cases hs;obtain ⟨a,c,rfl⟩:=g;refine ⟨[],trivial,A,fun _=>rfl,?_,?_,by simp,fun _ h=>by cases h⟩
    · simp [Builtin.firstCells,loadCells,loadCellsFrom]
    · simp [Builtin.firstCells,loadCells,loadCellsFrom]
  · rename_i b off m c
    obtain ⟨l,q,X⟩:=Option.map_eq_some_iff.1 hs;cases X;obtain ⟨r,base,k,cap,Y,rfl,h5⟩:=g;unfold WB at q
    split at q
    · rename_i cs Z
      obtain ⟨vs,G,E,H⟩:=h.cells Y Z q;refine ⟨vs,G,A,fun _=>rfl,run_firstCells_some w es n _ n cap vs E (fun j u F=>Ms.get H F),run_firstCells_some w.drew es n _ n cap vs E (fun j u F=>?_),E,G.cell J⟩;have:=Ms.get H F
      simpa using this
    · cases q
  · rename_i s
    cases hs;have g:vx=Vs s:=g;subst g;have h1:=h1 s rfl;subst h1;have I:byteCells (⟨⟨s⟩⟩:ByteArray)=s.map fun b=>Value.int .u8 b.toNat:=rfl
    refine ⟨byteCells ⟨⟨s⟩⟩,?_,A,fun _=>rfl,firstCells_string _ _,firstCells_string _ _,?_,?_⟩
    · rw [I];clear I J g h1
      induction s with
      | nil=>trivial
      | cons b s ih=>exact ⟨rfl,ih⟩
    · rw [byteCells_length,Nat.mul_one]; rfl
    · intro u B;obtain ⟨_,_,rfl⟩:=List.mem_map.1 B;rfl
  · cases hs
theorem M3O (z:Array Value)(n:Nat):(Builtin.zeroCells z n).toList.length=n*z.size:=by simp [Builtin.zeroCells]
theorem M4I {P:Program}{p:Ren}{S S':St}{w:World}(h:RH p S w){t q ty e es n len cap name:Nat}{i:TypeInfo}{z:Value}{base:Option Addr}{old new:List GV}{g j:List Value}{vx:Value}
    (Z:P.underlying t=some (.slice e)) (G:P.info? e=some i) (hz:i.zero=some z) (Y:i.size=es) (D:i.bytes≤4096) (ac:z.cells.size=es) (U:(Builtin.firstCells es len (.slice base len cap)).run P w.drew=.ok g.toArray w.drew) (O:g.length=len*es) (X:Ry p old g)
    (hs:Src P es q vx n j w) (J:Ry p new j) (r:cap<len+n) (hm:len≤1000000) (hn:n≤1000000) (B:newB S name (old++new)=some S') (I:X9 p name) (hx:name<S.nx) :
    Giv P (· = name) p w (Builtin.append_ #[t,q] ty #[.slice base len cap,vx]) (.sl name 0 (len+n) (.op es)) S':=by
  subst Y;have E:(len+n)*i.bytes≤140737488355328:=by
    have:=Nat.mul_le_mul (show len+n≤2000000 by omega) D;omega
  have u:=run_append_grow_src w t q ty e i z Z G hz base len cap g U vx n j hs r (by omega) (growslice_fits r E);have F:=grownCap_ge w (len+n) cap e;obtain ⟨q1,q2⟩:=h.drew.row (ty:=e) (fz:=(0,0)) (Builtin.zeroCells z.cells (grownCap w (len+n) cap e-(len+n))).toList B I hx (X.append J) (.inl rfl);have A:((g++j).toArray++Builtin.zeroCells z.cells (grownCap w (len+n) cap e-(len+n)))=((g++j)++(Builtin.zeroCells z.cells (grownCap w (len+n) cap e-(len+n))).toList).toArray:=by
    apply Array.ext'; simp
  rw [A] at u;have H:0+grownCap w (len+n) cap e*i.size=((g++j)++(Builtin.zeroCells z.cells (grownCap w (len+n) cap e-(len+n))).toList).length:=by
    rw [List.length_append,List.length_append,M3O,O,hs.newsLen,ac,← Nat.add_mul,← Nat.add_mul,Nat.zero_add]
    congr 1
    omega
  generalize ((g++j)++(Builtin.zeroCells z.cells (grownCap w (len+n) cap e-(len+n))).toList)=L at *
  exact ⟨p.set name (w.heap.size,0,L.length),_,_,u,⟨w.heap.size,0,L.length,_,Ren.set_same _ _ _,rfl,H,F⟩,q1,(Ch.drew _ _ _).trans q2⟩
theorem M2b {P:Program}{w:World}{t j ty e es len cap:Nat}{i:TypeInfo}{base:Option Addr}{g:List Value}{vx:Value}(D:P.underlying t=some (.slice e))(r:P.info? e=some i)(B:i.size=es)(hs:Src P es j vx 0 g w)(u:len≤cap) :
    (Builtin.append_ #[t,j] ty #[.slice base len cap,vx]).run P w=.ok (.slice base len cap) w:=by
  subst B;have A:g=[]:=List.length_eq_zero_iff.1 (by rw [hs.newsLen]; simp);subst A;have q:=hs.cells;rcases hs.kind with ⟨E,hk⟩ | hk <;> cases base <;> simp [Builtin.append_,run_underlying D,run_underlying hk,sizeOf,typeInfo,r,hs.len,u,q,storeCells]
theorem M5K {P:Program}{w w':World}{t j ty e es len cap n r off:Nat}{i:TypeInfo}{g:List Value}{vx:Value}(D:P.underlying t=some (.slice e))(q:P.info? e=some i)(B:i.size=es)(hs:Src P es j vx n g w)(u:len+n≤cap)
    (A:(storeCells ⟨r,off+len*es,none⟩ g).run P w=.ok () w') :
    (Builtin.append_ #[t,j] ty #[.slice (some ⟨r,off,none⟩) len cap,vx]).run P w=.ok (.slice (some ⟨r,off,none⟩) (len+n) cap) w':=by
  subst B;rcases hs.kind with ⟨E,hk⟩ | hk <;> simp [Builtin.append_,run_underlying D,run_underlying hk,sizeOf,typeInfo,q,hs.len,u,hs.cells,Addr.add_lit,A]
theorem RH.rename {p:Ren}{S S1 D:St}{w:World}(h:RH p S w){b r base n off name:Nat}{g:GB}{cs':Array Value}(E:p b=some (r,base,n))(hs:S.h.get b≠none)(B:S.put b none=some S1)(Y:S1.put name (some g)=some D)(hn:X9 p name)(hx:name<S.nx)
    (hb:∀ q,Le p q→RB q (w.setRow r cs') r (base+off) (n-off) g) :
    RH (p.set name (r,base+off,n-off)) D (w.setRow r cs')∧Ch (· = name) p w (p.set name (r,base+off,n-off)) (w.setRow r cs'):=by
  obtain ⟨k1,_,k3⟩:=P2 B;obtain ⟨s1,_,s3⟩:=P2 Y;have O:=Ren.set_le (x:=(r,base+off,n-off)) hn.1;have U:(w.setRow r cs').heap.size=w.heap.size:=by simp [World.setRow]
  have F:∀ i,i≠name→D.h.get i≠none→i≠b∧S.h.get i=D.h.get i:=fun i J u=>by
    rw [s3,if_neg J,k3] at u ⊢
    by_cases e:i=b
    · rw [if_pos e] at u; exact absurd rfl u
    · rw [if_neg e]; exact ⟨e,rfl⟩
  have away:∀ i x,i≠name→p i=some x→D.h.get i≠none→x.1≠r:=fun i x J am u er=>by
    obtain ⟨a1,a2⟩:=F i J u;exact a1 (h.inj i b x _ am E (by rw [a2]; exact u) hs er)
  have ah:Ev [r] w (w.setRow r cs'):=⟨rfl,rfl,rfl,Nat.le_of_eq U.symm,fun k _ hm=>setRow_other w r k cs' (by simpa using hm)⟩
  refine ⟨⟨fun i Z ad n' g' h1 u=>?_,fun i j x x' h1 u G H I=>?_,fun i x h1=>?_,M8W h.fr (s1.trans k1) hx,?_⟩,
    ⟨O,M7s,rfl,rfl,rfl,Nat.le_of_eq U.symm,fun k B ho=>setRow_other w r k cs' (fun e=>ho (.inl ⟨b,_,E,e.symm⟩)),fun k B=>?_⟩⟩
  · by_cases e:i=name
    · subst e;rw [s3,if_pos rfl] at u;cases u;rw [Ren.set_same] at h1;cases h1;exact hb _ O
    · rw [Ren.set_ne e] at h1;have X:D.h.get i≠none:=by rw [u]; simp
      exact (h.at_ i Z ad n' g' h1 (by rw [(F i e X).2]; exact u)).mono O (setRow_other w r Z cs' (away i _ e h1 X))
  · by_cases e:i=name
    · by_cases A:j=name
      · rw [e,A]
      · subst e;rw [Ren.set_same] at h1;rw [Ren.set_ne A] at u;cases h1;exact absurd I.symm (away j _ A u H)
    · by_cases A:j=name
      · subst A;rw [Ren.set_same] at u;rw [Ren.set_ne e] at h1;cases u;exact absurd I (away i _ e h1 G)
      · rw [Ren.set_ne e] at h1;rw [Ren.set_ne A] at u;exact h.inj i j x x' h1 u (by rw [(F i e G).2]; exact G) (by rw [(F j A H).2]; exact H) I
  · rw [U]
    by_cases e:i=name
    · subst e; rw [Ren.set_same] at h1; cases h1; show r<_; exact h.lt b _ E
    · rw [Ren.set_ne e] at h1; exact h.lt _ _ h1
  · refine h.ro.next (fun _ _=>by rw [M1Q Y,M1Q B]) ah (fun k B=>⟨b,_,E,hs,(List.mem_singleton.1 B).symm⟩) fun i x h1 u=>.inl ?_
    by_cases e:i=name
    · rw [if_pos e] at h1;cases h1;exact ⟨b,_,E,hs,rfl⟩
    · rw [if_neg e] at h1;exact ⟨i,x,h1,by rw [(F i e u).2]; exact u,rfl⟩
  · rcases M7t k B with e | e
    · exact .inl e
    · exact .inl (.inl ⟨b,_,E,e.symm⟩)
theorem M94 {α:Type}(l g vs:List α)(a:Nat)(ha:a+g.length≤l.length)(B:∀ j u,g[j]? = some u→l[a+j]? = some u) :
    g++vs <+: (l.take (a+g.length)++vs++l.drop (a+g.length+vs.length)).drop a:=by
  have e:l.take (a+g.length)=l.take a++g:=by
    apply List.ext_getElem?;intro i
    by_cases h1:i<a
    · rw [List.getElem?_take,if_pos (by omega),List.getElem?_append_left (by simp; omega),List.getElem?_take,if_pos h1]
    · have q:(l.take a).length=a:=by simp; omega
      rw [List.getElem?_append_right (by omega),q,List.getElem?_take]
      by_cases r:i<a+g.length
      · rw [if_pos r];have A:i-a<g.length:=by omega
        have:=B (i-a) _ (List.getElem?_eq_getElem A);rw [show a+(i-a)=i by omega] at this;rw [this,List.getElem?_eq_getElem A]
      · rw [if_neg r,List.getElem?_eq_none (by omega)]
  rw [e];have q:(l.take a).length=a:=by simp; omega
  refine ⟨l.drop (a+g.length+vs.length),?_⟩;simp only [List.append_assoc];rw [List.drop_left' q]
theorem M46 {S:St}{es:Nat}{x:GV}{new:List GV}(h:M8U S es x=some (0,new)):new=[]:=by
  unfold M8U at h
  split at h
  · cases h; rfl
  · cases h; rfl
  · obtain ⟨l,h1,g⟩:=Option.map_eq_some_iff.1 h;cases g;unfold WB at h1
    split at h1
    · obtain ⟨_,j⟩:=M3h h1;exact List.length_eq_zero_iff.1 (by omega)
    · cases h1
  · simp only [Option.some.injEq,Prod.mk.injEq,List.length_eq_zero_iff] at h;obtain ⟨rfl,rfl⟩:=h;rfl
  · cases h
theorem M84 {P:Program}{p:Ren}{S S':St}{w:World}(h:RH p S w){t t2 ty name:Nat}{s x g:GV}{vs vx:Value}(ha:YV P name t t2 S s x=some (g,S'))(hs:RV p s vs)(hx:RV p x vx)(hn:X9 p name)(aw:name<S.nx) :
    Giv P (· = name) p w (Builtin.append_ #[t,t2] ty #[vs,vx]) g S':=by
  unfold YV at ha
  split at ha
  · rename_i e es d2 aN aL
    obtain ⟨Z,i,J,Y,ak⟩:=Xd aN
    split at ha
    · rename_i z n new hb hz av
      simp only [Bool.and_eq_true] at hb;obtain ⟨⟨aH,aJ⟩,aI⟩:=hb;have aQ:=Nat.le_of_ble_eq_true aI;obtain ⟨i',zv,z1,z2,z3,z4⟩:=V3 (p:=p) hz;have:i'=i:=by rw [J] at z1; cases z1; rfl
      subst this
      split at ha
      · cases ha
      · rename_i aq
        simp only [Bool.and_eq_true] at aq;have au:=Nat.le_of_ble_eq_true aq.1;have be:=Nat.eq_of_beq_eq_true aq.2;have ax:zv.cells.size=es:=by have:=z3.length; rw [Array.length_toList] at this; omega
        have aY:∀ s,x=.str s→es=1:=fun s hs=>by
          subst hs;exact Nat.eq_of_beq_eq_true (by simpa [MaU] using aJ)
        have af:∀ {m:List GV},m.all XE=true→m=new→∃ A,Ry p new A∧Src P es t2 vx n A w:=fun hm e=>by
          subst e; exact Mbf h av hx aL aH aQ hm aY
        split at ha
        · rename_i D
          cases ha;have D:=Nat.eq_of_beq_eq_true D;subst D;have hs:vs=.slice none 0 0:=hs;subst hs;have ar:new=[]:=M46 av;subst ar;obtain ⟨A,H,B⟩:=af (m:=[]) rfl rfl;exact Giv.pure h (M2b Z J Y B (Nat.le_refl _)) rfl
        · rename_i b off len c D
          cases ha;have D:=Nat.eq_of_beq_eq_true D;subst D;obtain ⟨r,base,k,cap,U,rfl,X⟩:=hs;have ar:new=[]:=M46 av;subst ar;obtain ⟨A,H,B⟩:=af (m:=[]) rfl rfl;refine Giv.pure h (M2b Z J Y B ?_) ⟨r,base,k,cap,U,rfl,X⟩;cases c with
          | kn c=>obtain ⟨rfl,X⟩:=X; exact X
          | op es=>exact X.2
        · cases ha
        · -- nil grows
          rename_i D
          obtain ⟨S1,E,a2⟩:=Option.map_eq_some_iff.1 ha;cases a2;have hs:vs=.slice none 0 0:=hs;subst hs;obtain ⟨A,H,B⟩:=af (Vb E).1 rfl;have bd:n≠0:=fun e=>by subst e; simp at D
          have:=M4I (t:=t) (ty:=ty) (old:=[]) h Z J z2 Y ak ax (run_firstCells_none w.drew es 0 0 0) (by simp) trivial B H (by omega) (by omega) au E hn aw
          simpa using this
        · -- a known capacity
          rename_i b off len c D
          obtain ⟨r,base,k,cap,U,rfl,rfl,X⟩:=hs
          split at ha
          · rename_i I
            simp only [Bool.and_eq_true] at I;have am:=Nat.le_of_ble_eq_true I.1;have ao:=Nat.le_of_ble_eq_true I.2
            split at ha
            · rename_i old F
              obtain ⟨S1,E,a2⟩:=Option.map_eq_some_iff.1 ha;cases a2;have ab:=(Vb E).1;rw [List.all_append,Bool.and_eq_true] at ab;obtain ⟨A,H,B⟩:=af ab.2 rfl;unfold WB at F
              split at F
              · rename_i cs hg
                obtain ⟨ae,o1,O,o3⟩:=h.cells U hg F;exact M4I (t:=t) (ty:=ty) h Z J z2 Y ak ax (run_firstCells_some w.drew es len _ len cap ae O (fun j u hj=>by have:=Ms.get o3 hj; simpa using this)) O o1 B H am ao au E hn aw
              · cases F
            · cases ha
          · cases ha
        · -- an unknown capacity
          rename_i b off len bb D
          obtain ⟨r,base,k,cap,U,rfl,X,s3⟩:=hs
          split at ha
          · rename_i old I F
            simp only [Bool.and_eq_true] at I;have am:=Nat.eq_of_beq_eq_true I.1;have ao:=Nat.le_of_ble_eq_true I.2;subst am
            split at ha
            · rename_i S1 ap
              obtain ⟨S2,E,a2⟩:=Option.map_eq_some_iff.1 ha;cases a2;have ab:=(Vb E).1;rw [List.all_append,Bool.and_eq_true] at ab;obtain ⟨A,H,B⟩:=af ab.2 rfl;unfold WB at F
              split at F
              · rename_i cs hg
                obtain ⟨ae,o1,O,o3⟩:=h.cells U hg F;obtain ⟨p1,_,p3⟩:=P2 ap;have h1:=h.kill ap
                by_cases aF:len+n≤cap
                · -- there is room
                  obtain ⟨G,az,fz,c1,c2,c3,us,c4,c5⟩:=h.at_ b r base k _ U hg;have aK:(len+n)*es≤cap*es:=Nat.mul_le_mul_right _ aF;rw [Nat.add_mul] at aK;have bc:=B.newsLen;have aX:=VL P r (base+off+len*es) az fz A 0 G w c1 c3 (by omega) B.one;have aU:=M5K (t:=t) (ty:=ty) (off:=base+off) Z J Y B aF aX;have aE:=M94 G.toList ae A (base+off) (by rw [O,Array.length_toList]; omega) (fun j u hj=>by
                    have:=o3.at_ j u hj;rw [PG c1] at this;rw [Array.getElem?_toList]; exact this)
                  rw [O] at aE;have aD:(G.toList.take (base+off+len*es+0)++A++G.toList.drop (base+off+len*es+0+A.length)).length=G.size:=by
                    simp only [List.length_append,List.length_take,List.length_drop,Array.length_toList]; omega
                  obtain ⟨q1,q2⟩:=h.rename (off:=off) (cs':=(G.toList.take (base+off+len*es+0)++A++G.toList.drop (base+off+len*es+0+A.length)).toArray) U (by rw [hg]; simp) ap (Vb E).2 hn aw
                    (fun q hq=>⟨_,az,fz,setRow_heap w r G _ az fz c1,by rw [List.size_toArray,aD]; omega,by rw [List.size_toArray,aD]; exact c3,ae++A,(o1.append H).mono hq,aE⟩)
                  exact ⟨_,_,_,aU,⟨r,base+off,k-off,cap,Ren.set_same _ _ _,rfl,by omega,by omega⟩,q1,q2⟩
                · exact M4I (t:=t) (ty:=ty) h1 Z J z2 Y ak ax (run_firstCells_some w.drew es len _ len cap ae O (fun j u hj=>by have:=Ms.get o3 hj; simpa using this)) O o1 B H (by omega) ao au E hn (by omega)
              · cases F
            · cases ha
          · cases ha
        · cases ha
    · cases ha
  · cases ha
theorem M95 {P:Program}{p:Ren}{S S':St}{w:World}(h:RH p S w){t ty:Nat}{x g:GV}{vx:Value}(j:M1O P t S x=some (g,S'))(B:RV p x vx) :
    ∃ v w',(Builtin.clear_ #[t] ty #[vx]).run P w=.ok v w'∧RV p g v∧RH p S' w'∧Ch (fun _=>False) p w p w':=by
  have D:∀ {v:Value} {e:Nat},P.underlying t=some (.slice e)→(v=.slice none 0 0∨∃ a c,v=.slice (some a) 0 c)→(Builtin.clear_ #[t] ty #[v]).run P w=.ok (.tuple #[]) w:=by
    intro v e u hv;rcases hv with rfl | ⟨a,c,rfl⟩ <;> simp [Builtin.clear_,run_underlying u]
  unfold M1O at j
  split at j
  · rename_i e es b off len c A
    obtain ⟨u,i,hi,af,ad⟩:=Xd A
    split at j
    · rename_i z U
      split at j
      · rename_i X
        obtain ⟨S1,H,I⟩:=Option.map_eq_some_iff.1 j;cases I;obtain ⟨r,base,k,cap,h1,rfl,O⟩:=B;obtain ⟨i',zv,z1,z2,G,z4⟩:=V3 (p:=p) U;have E:=M6K G X (len:=len+1);rw [Array.toArray_toList] at E;obtain ⟨w',F,s2,s3⟩:=h.store (P:=P) h1 H E;refine ⟨.tuple #[],w',?_,⟨[],rfl,trivial⟩,s2,s3⟩;have Y:zv.cells.size=es:=by have:=G.length; rw [Array.length_toList] at this; omega
        have J:(Builtin.zeroCells zv.cells (len+1)).toList=((Array.range ((len+1)*es)).map (fun i=>zv.cells[i%zv.cells.size]!)).toList:=by
          unfold Builtin.zeroCells; rw [Y]
        rw [← J] at F;unfold Builtin.clear_;simp only [List.getElem?_toArray,List.getElem?_cons_zero];rw [run_bind,run_underlying u];simp only;rw [run_bind,z4];simp only;rw [run_bind];have Z:(storeCells ⟨r,base+off,none⟩ (Builtin.zeroCells zv.cells len.succ).toList).run P w=.ok () w':=F;simp only [Z];rfl
      · cases j
    · cases j
  · rename_i e es b off c A
    obtain ⟨u,_⟩:=Xd A;cases j;obtain ⟨r,base,k,cap,h1,rfl,O⟩:=B;exact ⟨_,w,D u (.inr ⟨_,_,rfl⟩),⟨[],rfl,trivial⟩,h,Ch.refl _ _ _⟩
  · rename_i q A
    obtain ⟨e,es⟩:=q;obtain ⟨u,_⟩:=Xd A;cases j;exact ⟨_,w,D u (.inr B),⟨[],rfl,trivial⟩,h,Ch.refl _ _ _⟩
  · rename_i q A
    obtain ⟨e,es⟩:=q;obtain ⟨u,_⟩:=Xd A;cases j;exact ⟨_,w,D u (.inl B),⟨[],rfl,trivial⟩,h,Ch.refl _ _ _⟩
  · cases j
theorem M3k {p:Ren}:∀ {l:List GV} {vs:List Value} {j:List UInt8},bytesOf l=some j→Ry p l vs→∃ u:List Int,vs=u.map (Value.int .u8)∧u.map (fun n=>UInt8.ofNat n.toNat)=j
  | [],[],j,h,_=>by cases h; exact ⟨[],rfl,rfl⟩
  | g::l,v::vs,j,h,⟨h1,h2⟩=>by
    unfold bytesOf at h
    split at h
    · rename_i b q
      split at h
      · rename_i r A
        cases h;obtain ⟨u,B,D⟩:=M3k A h2;unfold byteOf at q
        split at q
        · rename_i n
          cases q;have h1:v=.int .u8 n:=h1;exact ⟨n::u,by rw [h1,B]; rfl,by rw [List.map_cons,D]⟩
        · cases q
      · cases h
    · cases h
  | [],_::_,_,_,h=>h.elim
  | _::_,[],_,_,h=>h.elim
theorem M3l:∀ (g:List Int) (r:ByteArray),g.foldl (fun r n=>r.push (UInt8.ofNat n.toNat)) r=⟨r.data++(g.map fun n=>UInt8.ofNat n.toNat).toArray⟩
  | [],r=>by simp
  | n::g,r=>by
    rw [List.foldl_cons,M3l g];simp [ByteArray.push]
theorem Ma9 {P:Program}{p:Ren}{S S':St}{w:World}(h:RH p S w){s d name:Nat}{x g:GV}{vx:Value}(q:M3Z P name s d x S=some (g,S'))(A:RV p x vx)(hn:X9 p name)(ai:name<S.nx) :
    Giv P (· = name) p w (convert s d vx) g S':=by
  unfold M3Z at q
  split at q
  · rename_i k1 k k2 n hs hd
    cases q;have A:vx=.int k2 n:=A;subst A;refine Giv.pure h ?_ rfl;simp [convert,run_underlying hs,run_underlying hd,Conv.intToInt]
  · rename_i l hs hd
    cases q;have A:vx=Vs l:=A;subst A;refine Giv.pure h ?_ rfl;simp [convert,run_underlying hs,run_underlying hd]
  · rename_i e l hs hd
    split at q
    · rename_i B
      split at q
      · obtain ⟨S1,D,F⟩:=Option.map_eq_some_iff.1 q;cases F;have A:vx=Vs l:=A;subst A;have H:=run_bytes_of_string w s d e ⟨⟨l⟩⟩ hs hd B;have J:=grownCap_ge w l.length 0 e;have I:(⟨⟨l⟩⟩:ByteArray).size=l.length:=rfl;have U:bytesRow ⟨⟨l⟩⟩ (grownCap w l.length 0 e)=((l.map fun (b:UInt8)=>Value.int .u8 b.toNat)++List.replicate (grownCap w l.length 0 e-l.length) (Value.int .u8 0)).toArray:=by
          unfold bytesRow;rw [I];apply Array.ext';simp
        have hv:Ry p (l.map fun (b:UInt8)=>GV.int .u8 b.toNat) (l.map fun (b:UInt8)=>Value.int .u8 b.toNat):=by
          clear H J I U q D A
          rename_i af
          clear af
          induction l with
          | nil=>trivial
          | cons b l ih=>exact ⟨rfl,ih⟩
        have G:((l.map fun (b:UInt8)=>Value.int .u8 b.toNat)++List.replicate (grownCap w l.length 0 e-l.length) (Value.int .u8 0)).length=grownCap w l.length 0 e:=by simp; omega
        obtain ⟨Y,Z⟩:=h.drew.row (ty:=e) (fz:=(grownCap w l.length 0 e,grownCap w l.length 0 e+1)) (List.replicate (grownCap w l.length 0 e-l.length) (Value.int .u8 0)) D hn ai hv (.inr (by rw [G]; exact Nat.le_refl _));have ah:((l.map fun (b:UInt8)=>Value.int .u8 b.toNat)++List.replicate (grownCap w l.length 0 e-l.length) (Value.int .u8 0)).toArray.size=grownCap w l.length 0 e:=by rw [List.size_toArray]; exact G
        rw [I,U,ah] at H;rw [G] at Y Z;exact ⟨p.set name (w.heap.size,0,grownCap w l.length 0 e),_,_,H,⟨w.heap.size,0,grownCap w l.length 0 e,grownCap w l.length 0 e,Ren.set_same _ _ _,rfl,by omega,J⟩,Y,(Ch.drew _ _ _).trans Z⟩
      · cases q
    · cases q
  · rename_i e hs hd
    split at q
    · rename_i B
      cases q;have A:vx=.slice none 0 0:=A;subst A;refine Giv.pure h ?_ rfl;rw [run_convert_bytes_string w s d e none 0 0 hs B hd];rfl
    · cases q
  · rename_i e b off n c hs hd
    split at q
    · rename_i B
      split at q
      · rename_i l E
        obtain ⟨bs,D,F⟩:=Option.map_eq_some_iff.1 q;cases F;obtain ⟨r,base,k,cap,h1,rfl,h2⟩:=A;unfold WB at E
        split at E
        · rename_i cs hg
          obtain ⟨vs,h6,h7,h8⟩:=h.cells h1 hg E;obtain ⟨X,n1,n2⟩:=M3k D h6;subst n1;refine Giv.pure h ?_ rfl;rw [run_convert_bytes_string w s d e _ n cap hs B hd];have O:=run_loadCells_list (P:=P) w ⟨r,base+off,none⟩ (X.map (Value.int .u8)) (fun j u hj=>Ms.get h8 hj);rw [h7] at O;rw [run_bytesToString w _ n cap X O,M3l,n2];simp [Vs]
        · cases E
      · cases q
    · cases q
  · cases q
theorem M96 {p:Ren}{v:Value}{g:GV}(h:M8Q v=some g):RV p g v:=by
  unfold M8Q at h
  split at h <;> first | (cases h; rfl) | cases h
theorem M85 {P:Program}{p:Ren}{op:BinOp}{a b:List UInt8}{g:GV}(h:M6C op a b=some g)(w:World):∃ v,(Op.stringOp op ⟨⟨a⟩⟩ ⟨⟨b⟩⟩).run P w=.ok v w∧RV p g v:=by
  have j:∀ l:List UInt8,(⟨⟨l⟩⟩:ByteArray).toList=l:=Yr;have q:∀ l:List UInt8,(⟨⟨l⟩⟩:ByteArray).size=l.length:=fun _=>rfl
  unfold M6C at h
  split at h
  · split at h
    · rename_i r
      cases h;refine ⟨Vs (a++b),?_,rfl⟩;unfold Op.stringOp;simp only [q];rw [if_neg (by show ¬ ((a.length+b.length:Nat):Int)>9223372036854775807; omega)];show Result.ok (Value.string (⟨⟨a⟩⟩++⟨⟨b⟩⟩)) w=_
      congr 2
    · cases h
  all_goals first
    | (cases h; done)
    | (cases h; exact ⟨_,by simp only [Op.stringOp,j]; rfl,rfl⟩)
theorem M97 {P:Program}{p:Ren}{d:Nat}{A:TypeId→GV→GV→Option Bool}{xs ys:List GV}{B D:List Value}(r:Ry p xs B)(u:Ry p ys D)
    (j:∀ t x y b vx q w,A t x y=some b→RV p x vx→RV p y q→(Op.equalIn d t vx q).run P w=.ok b w) :
    ∀ (fs:List Field) (b:Bool) (w:World),Ma2 P A xs ys fs=some b→(Op.eqFields d B.toArray D.toArray fs).run P w=.ok b w
  | [],b,w,h=>by cases h; rfl
  | f::fs,b,w,h=>by
    unfold Ma2 at h
    split at h
    · cases h
    · rename_i H
      unfold Op.eqFields;rw [if_pos H]
      split at h
      · rename_i x y h1 G
        obtain ⟨vx,I,E⟩:=M2z h1 r w;obtain ⟨q,J,F⟩:=M2z G u w;rw [run_bind,I];simp only;rw [run_bind,J];simp only
        split at h
        · rename_i g
          rw [run_bind,j _ _ _ _ _ _ w g E F];simp only [Bool.not_true,Bool.false_eq_true,if_false];exact M97 r u j fs b w h
        · rename_i g
          cases b with
          | true=>exact absurd h g
          | false=>
            rw [run_bind,j _ _ _ _ _ _ w h E F];rfl
      · cases h
theorem M98 {P:Program}{p:Ren}:∀ (k d t:Nat) (x y:GV) (b:Bool) (vx u:Value) (w:World),k≤d→gEq P k t x y=some b→RV p x vx→RV p y u→(Op.equalIn d t vx u).run P w=.ok b w
  | 0,d,t,x,y,b,vx,u,w,hk,h,g,j=>by cases h
  | k+1,0,t,x,y,b,vx,u,w,hk,h,g,j=>by omega
  | k+1,d+1,t,x,y,b,vx,u,w,hk,h,g,j=>by
    unfold gEq at h
    split at h
    · rename_i a c q
      have g:vx=.bool a:=g;have j:u=.bool c:=j;subst g j; cases h;exact run_equalIn_bool w d t a c q
    · rename_i A J a O c q
      have g:vx=.int J a:=g;have j:u=.int O c:=j;subst g j
      split at h
      · rename_i e; subst e; cases h
        exact run_equalIn_int w d t _ _ a c q
      · cases h
    · rename_i a c q
      have g:vx=Vs a:=g;have j:u=Vs c:=j;subst g j; cases h;rw [run_equalIn_string w d t _ _ q,Yr,Yr]
    · rename_i e q
      have g:vx=.pointer none:=g;have j:u=.pointer none:=j;subst g j; cases h;simp [Op.equalIn,run_underlying q]
    · rename_i e b' off q
      have g:vx=.pointer none:=g;obtain ⟨r,base,n,h1,rfl⟩:=j;subst g; cases h;simp [Op.equalIn,run_underlying q]
    · rename_i e b' off q
      have j:u=.pointer none:=j;obtain ⟨r,base,n,h1,rfl⟩:=g;subst j; cases h;simp [Op.equalIn,run_underlying q]
    · rename_i e q
      have g:vx=.slice none 0 0:=g;have j:u=.slice none 0 0:=j;subst g j; cases h;simp [Op.equalIn,run_underlying q]
    · rename_i e b' off n c q
      have g:vx=.slice none 0 0:=g;obtain ⟨r,base,U,cap,h1,rfl,_⟩:=j;subst g; cases h;simp [Op.equalIn,run_underlying q]
    · rename_i e b' off n c q
      have j:u=.slice none 0 0:=j;obtain ⟨r,base,U,cap,h1,rfl,_⟩:=g;subst j; cases h;simp [Op.equalIn,run_underlying q]
    · rename_i e q
      have g:vx=.slice none 0 0:=g;obtain ⟨a,c,rfl⟩:=j;subst g; cases h;simp [Op.equalIn,run_underlying q]
    · rename_i e q
      have j:u=.slice none 0 0:=j;obtain ⟨a,c,rfl⟩:=g;subst j; cases h;simp [Op.equalIn,run_underlying q]
    · rename_i A B q
      have g:vx=.map none:=g;have j:u=.map none:=j;subst g j; cases h;simp [Op.equalIn,run_underlying q]
    · rename_i A B m q
      have g:vx=.map none:=g;obtain ⟨r,h1,rfl⟩:=j;subst g; cases h;simp [Op.equalIn,run_underlying q]
    · rename_i A B m q
      have j:u=.map none:=j;obtain ⟨r,h1,rfl⟩:=g;subst j; cases h;simp [Op.equalIn,run_underlying q]
    · rename_i fs xs ys q
      split at h
      · cases h
      · rename_i H
        obtain ⟨X,rfl,g⟩:=g;obtain ⟨Y,rfl,j⟩:=j;have D:P.fieldsOf t=fs:=by unfold Program.fieldsOf; rw [q]
        have I:P.stoodInHeld t=false:=by
          cases G:P.stoodInHeld t with
          | false=>rfl
          | true=>exact absurd (.inl G) H
        rw [run_equalIn_struct w d t _ _ (by rw [D]; exact q) I,D];exact M97 g j (fun t x y b vx u w h1 E F=>M98 k d t x y b vx u w (by omega) h1 E F) _ b w h
    · cases h
def Maa (P:Program) (t:TypeId) (xo yo:Operand) (vx g:Value) (w:World):Prop:=
  (do eqGuard .eql t xo yo vx g; binOp .eql t vx g:Sem Value).run P w=(do pure (.bool (← Op.equal t vx g)):Sem Value).run P w∧
  (do eqGuard .neq t xo yo vx g; binOp .neq t vx g:Sem Value).run P w=(do pure (.bool (!(← Op.equal t vx g))):Sem Value).run P w
theorem M5L {P:Program}{p:Ren}{k t:Nat}{x y:GV}{b:Bool}{vx q:Value}{xo yo:Operand}(h:gEq P (k+1) t x y=some b)(g:RV p x vx)(j:RV p y q)(w:World)
    (E:∀ k n k' u,x=.int k n→y=.int k' u→False) (hs:∀ s F,x=.str s→y=.str F→False):Maa P t xo yo vx q w:=by
  unfold gEq at h
  split at h
  · have g:vx=.bool _:=g;have j:q=.bool _:=j;subst g j;exact ⟨rfl,rfl⟩
  · exact (E _ _ _ _ rfl rfl).elim
  · exact (hs _ _ rfl rfl).elim
  · have g:vx=.pointer none:=g;have j:q=.pointer none:=j;subst g j;exact ⟨rfl,rfl⟩
  · have g:vx=.pointer none:=g;obtain ⟨r,base,n,h1,rfl⟩:=j;subst g;exact ⟨rfl,rfl⟩
  · have j:q=.pointer none:=j;obtain ⟨r,base,n,h1,rfl⟩:=g;subst j;exact ⟨rfl,rfl⟩
  · have g:vx=.slice none 0 0:=g;have j:q=.slice none 0 0:=j;subst g j;exact ⟨rfl,rfl⟩
  · have g:vx=.slice none 0 0:=g;obtain ⟨r,base,u,cap,h1,rfl,_⟩:=j;subst g;exact ⟨rfl,rfl⟩
  · have j:q=.slice none 0 0:=j;obtain ⟨r,base,u,cap,h1,rfl,_⟩:=g;subst j;exact ⟨rfl,rfl⟩
  · have g:vx=.slice none 0 0:=g;obtain ⟨a,c,rfl⟩:=j;subst g;exact ⟨rfl,rfl⟩
  · have j:q=.slice none 0 0:=j;obtain ⟨a,c,rfl⟩:=g;subst j;exact ⟨rfl,rfl⟩
  · have g:vx=.map none:=g;have j:q=.map none:=j;subst g j;exact ⟨rfl,rfl⟩
  · have g:vx=.map none:=g;obtain ⟨r,h1,rfl⟩:=j;subst g;exact ⟨rfl,rfl⟩
  · have j:q=.map none:=j;obtain ⟨r,h1,rfl⟩:=g;subst j;exact ⟨rfl,rfl⟩
  · rename_i fs xs ys G
    split at h
    · cases h
    · rename_i D
      obtain ⟨H,rfl,g⟩:=g;obtain ⟨I,rfl,j⟩:=j;have A:P.eqGuardType P.depth t=false:=by
        cases B:P.eqGuardType P.depth t with
        | false=>rfl
        | true=>exact absurd (.inr B) D
      refine ⟨?_,?_⟩
      · rw [run_bind,run_eqGuard_agg w .eql t xo yo _ _ A]; rfl
      · rw [run_bind,run_eqGuard_agg w .neq t xo yo _ _ A]; rfl
  · cases h
theorem Mbg {P:Program}{p:Ren}{op:BinOp}{t:Nat}{x y g:GV}{vx r:Value}{xo yo:Operand}(h:Mb9 P op t x y=some g)(j:RV p x vx)(q:RV p y r)(w:World) :
    ∃ v,(do eqGuard op t xo yo vx r; binOp op t vx r:Sem Value).run P w=.ok v w∧RV p g v:=by
  unfold Mb9 at h
  split at h
  · rename_i k a k' b
    have j:vx=.int k a:=j;have q:r=.int k' b:=q;subst j q
    split at h
    · rename_i v hv
      obtain ⟨u,h1,A⟩:=Z9 (XX (P:=P) (t:=t) (xo:=xo) (yo:=yo) hv (fun u=>u=v) rfl);subst A;exact ⟨u,h1 w,M96 h⟩
    · cases h
  · rename_i a b
    have j:vx=Vs a:=j;have q:r=Vs b:=q;subst j q;obtain ⟨v,h1,A⟩:=M85 (P:=P) h w;refine ⟨v,?_,A⟩;rw [← h1];cases op <;> rfl
  · rename_i h1 A
    have H:∀ k n k' F,x=.int k n→y=.int k' F→False:=fun k n k' F D E=>h1 k n k' F D E
    have hs:∀ s G,x=.str s→y=.str G→False:=fun s G D E=>A s G D E
    split at h
    · obtain ⟨b,B,rfl⟩:=Option.map_eq_some_iff.1 h;refine ⟨.bool b,?_,rfl⟩;rw [(M5L B j q w H hs).1,run_bind];unfold Op.equal;rw [M98 20 Op.maxDepth t x y b vx r w (by decide) B j q];rfl
    · obtain ⟨b,B,rfl⟩:=Option.map_eq_some_iff.1 h;refine ⟨.bool (!b),?_,rfl⟩;rw [(M5L B j q w H hs).2,run_bind];unfold Op.equal;rw [M98 20 Op.maxDepth t x y b vx r w (by decide) B j q];rfl
    · cases h
theorem MbJ {P:Program}{p:Ren}{op:UnOp}{x g:GV}{vx:Value}(h:gUn op x=some g)(j:RV p x vx)(w:World):∃ v,(Op.unary op vx).run P w=.ok v w∧RV p g v:=by
  unfold gUn at h
  split at h
  · cases h;have j:vx=.bool _:=j;subst j;exact ⟨_,rfl,rfl⟩
  · cases h;have j:vx=.int _ _:=j;subst j;exact ⟨_,rfl,rfl⟩
  · cases h
theorem Mbh {P:Program}{p:Ren}{S:St}{w:World}(h:RH p S w){t ty n:Nat}{x:GV}{vx:Value}(g:Mbb P t S x=some n)(j:RV p x vx):(Builtin.len_ #[t] ty #[vx]).run P w=.ok (.int .i64 n) w:=by
  unfold Mbb at g
  split at g
  · rename_i s q
    cases g;have j:vx=Vs s:=j;subst j;exact run_len_string w t ty _ q
  · rename_i e q
    cases g;have j:vx=.slice none 0 0:=j;subst j;simp only [Builtin.len_];show Sem.run P (underlying t >>= _) w=_
    rw [run_bind,run_underlying q];rfl
  · rename_i e q
    cases g;obtain ⟨a,c,rfl⟩:=j;simp only [Builtin.len_];show Sem.run P (underlying t >>= _) w=_
    rw [run_bind,run_underlying q];rfl
  · rename_i e b off m c q
    cases g;obtain ⟨r,base,k,cap,h1,rfl,u⟩:=j;simp only [Builtin.len_];show Sem.run P (underlying t >>= _) w=_
    rw [run_bind,run_underlying q];rfl
  · rename_i H A q
    cases g;have j:vx=.map none:=j;subst j;simp only [Builtin.len_];show Sem.run P (underlying t >>= _) w=_
    rw [run_bind,run_underlying q];rfl
  · rename_i H A b q
    split at g
    · rename_i es D
      cases g;obtain ⟨r,h1,rfl⟩:=j;obtain ⟨Ph,clock,u,B⟩:=h.at_ b r 0 0 _ h1 D;have F:∀ {es:List (GV×GV)} {l:List MapEntry},RM p es l→l.length=es.length:=by
        intro es
        induction es with
        | nil=>intro l g; cases l with
          | nil=>rfl
          | cons _ _=>exact g.elim
        | cons e es G=>intro l g; cases l with
          | nil=>exact g.elim
          | cons _ _=>simp [G g.2]
      have:=F B;simp only [Builtin.len_];show Sem.run P (underlying t >>= _) w=_
      rw [run_bind,run_underlying q];have E:(getObj r).run P w=.ok (.map Ph clock) w:=by simp only [getObj,Sem.run,u]
      show Sem.run P (getObj r >>= _) w=_
      rw [run_bind,E];simp only [goInt,Sem.run_pure];rw [← this,Array.length_toList]
    · cases g
  · cases g
theorem M5M {P:Program}{p:Ren}:∀ {l:List GV} {vs:List Value} {x g:GV} {vx:Value} {w:World},M7Y x l=some g→RV p x vx→Ry p l vs→∃ v,(vs.foldlM Builtin.max2 vx).run P w=.ok v w∧RV p g v
  | [],[],x,g,vx,w,h,j,_=>by
    unfold M7Y at h;cases h;exact ⟨vx,rfl,j⟩
  | y::l,u::vs,x,g,vx,w,h,j,⟨h1,h2⟩=>by
    unfold M7Y at h
    split at h
    · rename_i e; cases e
    · rename_i k a k' b A e
      cases e;have j:vx=.int k a:=j;have h1:u=.int k' b:=h1;subst j h1;obtain ⟨v,q,r⟩:=M5M (P:=P) (vx:=.int k (if b>a then b else a)) (w:=w) h rfl h2;refine ⟨v,?_,r⟩;rw [List.foldlM_cons,run_bind];exact q
    · cases h
  | [],_::_,_,_,_,_,_,_,h=>h.elim
  | _::_,[],_,_,_,_,_,_,h=>h.elim
theorem Mbi {P:Program}{p:Ren}{ts:Array TypeId}{ty:Nat}{x g:GV}{l:List GV}{vs:List Value}(h:M7Y x l=some g)(hv:Ry p (x::l) vs)(w:World):∃ v,(Builtin.max_ ts ty vs.toArray).run P w=.ok v w∧RV p g v:=by
  cases vs with
  | nil=>exact hv.elim
  | cons v vs=>exact M5M (P:=P) h hv.1 hv.2
def M2c (p:Ren) (f:GF) (fr:Fr) (xs:List Operand):Prop:=∀ x∈xs,∀ g,Z7 f x=some g→RV p g (ev fr x)
theorem M1g {p:Ren}{f:GF}{fr:Fr}:∀ {l:List Operand} {j:List GV},M7X f l=some j→M2c p f fr l→Ry p j (l.map (ev fr))
  | [],j,h,_=>by cases h; trivial
  | x::l,j,h,ho=>by
    unfold M7X at h
    split at h
    · rename_i g q
      split at h
      · rename_i r u
        cases h;exact ⟨ho x (by simp) g q,M1g u fun y A=>ho y (by simp [A])⟩
      · cases h
    · cases h
theorem M2C {p:Ren}{f:GF}{fr:Fr}:∀ {l:List (Nat×Operand)} {j:List (Nat×GV)},M8P f l=some j→M2c p f fr (l.map (·.2))→RVp p j (l.map fun (i,x)=>(i,ev fr x))
  | [],j,h,_=>by cases h; trivial
  | (i,x)::l,j,h,ho=>by
    unfold M8P at h
    split at h
    · rename_i g q
      split at h
      · rename_i r u
        cases h;exact ⟨⟨rfl,ho x (by simp) g q⟩,M2C u fun y A=>ho y (by simp only [List.map_cons,List.mem_cons]; exact .inr A)⟩
      · cases h
    · cases h
theorem M4J {p:Ren}{f:GF}{fr:Fr}{o:Option Operand}{r:Option GV}(h:Ma3 f o=some r)(j:M2c p f fr o.toList):RO p r (o.map (ev fr)):=by
  cases o with
  | none=>cases h; trivial
  | some x=>
    obtain ⟨g,h1,rfl⟩:=Option.map_eq_some_iff.1 h;exact j x (by simp) g h1
def DF:List Deferred→List FuncId→Prop
  | [],[]=>True
  | d::ds,g::gs=>(∃ a c,d=⟨.fn (.func g) c,a⟩)∧DF ds gs
  | [],_::_=>False
  | _::_,[]=>False
def M4K (P:Program) (call:Cl):Prop:=∀ g args S v S',call g args S=some (v,S')→S'.df=S.df∧S.nx≤S'.nx∧∀ p w j,Ry p args j→RH p S w→
  Md P g j w fun u w'=>∃ q,RV q v u∧RH q S' w'∧Ch (fun b=>S.nx≤b∧b<S'.nx) p w q w'
theorem PU {P:Program}{o:Oper}{a:Act}{w w':World}{v:Value}{N:Act→World→Prop}{Q:Exit→Act→World→Prop}(h:(execOp a.eval o).run P w=.ok (.value v) w')(g:N (a.put o.dst v) w'):o.wp P a w N Q:=by
  unfold Oper.wp;rw [h];exact g
theorem M6M {P:Program}{o:Oper}{a:Act}{w w':World}{N:Act→World→Prop}{Q:Exit→Act→World→Prop}(h:(execOp a.eval o).run P w=.ok .skip w')(g:N (a.put o.dst undef) w'):o.wp P a w N Q:=by
  unfold Oper.wp;rw [h];exact g
theorem M86 {P:Program}{name t B:Nat}{S S':St}{s x g:GV}(ha:YV P name t B S s x=some (g,S')):S'.df=S.df:=by
  have q:∀ {r S1:St} {nm:Nat} {vs:List GV},newB r nm vs=some S1→S1.df=r.df:=fun u=>(P2 (Vb u).2).2.1
  unfold YV at ha
  split at ha
  · split at ha
    · split at ha
      · cases ha
      · split at ha
        · cases ha; rfl
        · cases ha; rfl
        · cases ha
        · obtain ⟨S1,h1,j⟩:=Option.map_eq_some_iff.1 ha;cases j;exact q h1
        · split at ha
          · split at ha
            · obtain ⟨S1,h1,j⟩:=Option.map_eq_some_iff.1 ha;cases j;exact q h1
            · cases ha
          · cases ha
        · split at ha
          · split at ha
            · rename_i A
              obtain ⟨S1,h1,j⟩:=Option.map_eq_some_iff.1 ha;cases j;rw [q h1];exact (P2 A).2.1
            · cases ha
          · cases ha
        · cases ha
    · cases ha
  · cases ha
theorem M99 {P:Program}{t:Nat}{S S':St}{x g:GV}(j:M1O P t S x=some (g,S')):S'.df=S.df:=by
  unfold M1O at j
  split at j
  · split at j
    · split at j
      · obtain ⟨S1,h1,q⟩:=Option.map_eq_some_iff.1 j;cases q;obtain ⟨l,u,_,_,r⟩:=XF h1;exact (P2 r).2.1
      · cases j
    · cases j
  · cases j; rfl
  · cases j; rfl
  · cases j; rfl
  · cases j
theorem M87 {P:Program}{call:Cl}(aX:M4K P call){name:Nat}{o:Oper}{f:GF}{S S':St}{g:GV}(j:gOp P call name o f S=some (g,S')){p:Ren}{a:Act}{fr:Fr}{w:World}(ha:a.eval=ev fr)
    (D:M2c p f fr o.op.operands.toList) (h:RH p S w) (hn:X9 p name) (hx:name<S.nx) {N:Act→World→Prop} {Q:Exit→Act→World→Prop}
    (O:∀ q u w' ds,RV q g u→RH q S' w'→Ch (fun b=>b=name∨S.nx≤b∧b<S'.nx) p w q w'→(DF a.defers S.df→DF ds S'.df)→N (({ a with defers:=ds }:Act).put o.dst u) w'):o.wp P a w N Q:=by
  obtain ⟨dst,op,ty,pos,Y,guard⟩:=o;have X:∀ {s:Sem Value} {v:Value},(execOp (ev fr) ⟨dst,op,ty,pos,Y,guard⟩)=(do pure (.value (← s)):Sem Next)→S'=S→s.run P w=.ok v w→RV p g v→Oper.wp P ⟨dst,op,ty,pos,Y,guard⟩ a w N Q:=by
    intro s v he e h1 A;subst e;refine PU (v:=v) (w':=w) (by rw [ha,he]; exact MG s v w w h1) ?_;exact O p v w a.defers A h (Ch.refl _ _ _) id
  have ad:∀ {s:Sem Value} {S1:St},(execOp (ev fr) ⟨dst,op,ty,pos,Y,guard⟩)=(do pure (.value (← s)):Sem Next)→S'=S1→S1.df=S.df→Giv P (· = name) p w s g S1→Oper.wp P ⟨dst,op,ty,pos,Y,guard⟩ a w N Q:=by
    intro s S1 he e ae ⟨q,v,w',h1,A,B,E⟩;subst e;refine PU (v:=v) (w':=w') (by rw [ha,he]; exact MG s v w w' h1) ?_;exact O q v w' a.defers A B (E.mono fun b I=>.inl I) (by rw [ae]; exact id)
  have aC:∀ {s:Sem Unit} {w':World} {S1:St},(execOp (ev fr) ⟨dst,op,ty,pos,Y,guard⟩)=(do s; pure .skip:Sem Next)→S'=S1→S1.df=S.df→g=.tup []→s.run P w=.ok () w'→RH p S1 w'→Ch (fun _=>False) p w p w'→Oper.wp P ⟨dst,op,ty,pos,Y,guard⟩ a w N Q:=by
    intro s w' S1 he e ae eg h1 A B;subst e eg;refine M6M (w':=w') (by rw [ha,he,run_bind,h1]; rfl) ?_;exact O p undef w' a.defers ⟨[],rfl,trivial⟩ A (B.mono fun b I=>I.elim) (by rw [ae]; exact id)
  have aq:∀ {S0 S1:St} {nm:Nat} {vs:List GV},newB S0 nm vs=some S1→S1.df=S0.df:=fun hh=>(P2 (Vb hh).2).2.1
  have PI:∀ {x y:Operand},x∈[y]↔x=y:=by simp
  unfold gOp at j;cases op <;> simp only at j <;> simp only [Op.operands] at D
  case move x=>
    obtain ⟨v,h1,A⟩:=Option.map_eq_some_iff.1 j;cases A;exact PU (v:=ev fr x) (w':=w) (by rw [ha]; rfl) (O p _ w a.defers (D x (by simp) _ h1) h (Ch.refl _ _ _) id)
  case assign x=>
    obtain ⟨v,h1,A⟩:=Option.map_eq_some_iff.1 j;cases A;exact PU (v:=ev fr x) (w':=w) (by rw [ha]; rfl) (O p _ w a.defers (D x (by simp) _ h1) h (Ch.refl _ _ _) id)
  case pick c x y=>
    split at j
    · rename_i hc
      obtain ⟨v,h1,A⟩:=Option.map_eq_some_iff.1 j;cases A;have an:ev fr c=.bool true:=D c (by simp) _ hc;exact PU (v:=ev fr x) (w':=w) (by rw [ha]; simp only [execOp,an]; rfl) (O p _ w a.defers (D x (by simp) _ h1) h (Ch.refl _ _ _) id)
    · rename_i hc
      obtain ⟨v,h1,A⟩:=Option.map_eq_some_iff.1 j;cases A;have an:ev fr c=.bool false:=D c (by simp) _ hc;exact PU (v:=ev fr y) (w':=w) (by rw [ha]; simp only [execOp,an]; rfl) (O p _ w a.defers (D y (by simp) _ h1) h (Ch.refl _ _ _) id)
    · cases j
  case alloc t=>
    split at j
    · rename_i z U
      obtain ⟨S1,h1,A⟩:=Option.map_eq_some_iff.1 j;cases A;exact ad rfl rfl (aq h1) (M8Y h U h1 hn hx)
    · cases j
  case box t x=>
    split at j
    · rename_i v hv
      obtain ⟨S1,h1,A⟩:=Option.map_eq_some_iff.1 j;cases A;exact ad rfl rfl (aq h1) (Mbe h (D x (by simp) _ hv) h1 hn hx)
    · cases j
  case build t parts=>
    split at j
    · rename_i z ps fs U ap hu
      split at j
      · rename_i pl a8
        obtain ⟨c,h1,A⟩:=Option.map_eq_some_iff.1 j;cases A;obtain ⟨v,B,E⟩:=M4D U (M2C ap (by simpa using D)) hu a8 h1 w;exact X rfl rfl (by rw [T9] at B; exact B) E
      · cases j
    · rename_i z ps m e U ap hu
      split at j
      · rename_i n a6
        obtain ⟨c,h1,A⟩:=Option.map_eq_some_iff.1 j;cases A;obtain ⟨v,B,E⟩:=M5G U (M2C ap (by simpa using D)) hu a6 h1 w;exact X rfl rfl (by rw [T9] at B; exact B) E
      · cases j
    · cases j
  case buildSlice t len parts=>
    split at j
    · rename_i e n ps av ap
      split at j
      · rename_i z U
        split at j
        · rename_i hc
          split at j
          · rename_i c hf
            obtain ⟨S1,h1,A⟩:=Option.map_eq_some_iff.1 j;cases A;have:=M3N h av U hc.1 hc.2 (M2C ap (by simpa using D)) hf h1 hn hx;rw [T9] at this;exact ad rfl rfl (aq h1) this
          · cases j
        · cases j
      · cases j
    · cases j
  case load t x=>
    split at j
    · rename_i b off hv
      obtain ⟨v,h1,A⟩:=Option.map_eq_some_iff.1 j;cases A;obtain ⟨r,base,n,B,E⟩:=D x (by simp) _ hv;refine ad rfl rfl rfl ?_;rw [E];exact Ma7 h h1 B
    · cases j
  case store t x y=>
    split at j
    · rename_i b off v n G hy U
      split at j
      · rename_i hl
        obtain ⟨S1,h1,A⟩:=Option.map_eq_some_iff.1 j;cases A;obtain ⟨r,base,k,B,E⟩:=D x (by simp) _ G;obtain ⟨w',Z,h6,h7⟩:=M8X (P:=P) h U (Nat.eq_of_beq_eq_true hl) h1 B (D y (by simp) _ hy);obtain ⟨l,l',_,_,h8⟩:=XF h1;exact aC rfl rfl (P2 h8).2.1 rfl (by rw [E]; exact Z) h6 h7
      · cases j
    · cases j
  case nilCheck x=>
    split at j
    · rename_i v hv
      split at j
      · rename_i a7
        cases j;have hr:=D x (by simp) _ hv;refine PU (v:=ev fr x) (w':=w) ?_ (O p _ w a.defers hr h (Ch.refl _ _ _) id);rw [ha];cases g <;> first
          | (cases a7; done)
          | (obtain ⟨r,base,n,h1,A⟩:=hr; simp only [execOp,A]; rfl)
          | (obtain ⟨va,vc,h1,A,B⟩:=hr; simp only [execOp,h1]; rfl)
      · cases j
    · cases j
  case binOp op t x y yt=>
    split at j
    · rename_i vx vy G hy
      obtain ⟨v,h1,A⟩:=Option.map_eq_some_iff.1 j;cases A;obtain ⟨u,B,E⟩:=Mbg (xo:=x) (yo:=y) h1 (D x (by simp) _ G) (D y (by simp) _ hy) w;exact X rfl rfl B E
    · cases j
  case unOp op t x=>
    split at j
    · rename_i vx G
      obtain ⟨v,h1,A⟩:=Option.map_eq_some_iff.1 j;cases A;obtain ⟨u,B,E⟩:=MbJ (P:=P) h1 (D x (by simp) _ G) w;exact X rfl rfl B E
    · cases j
  case convert s d x=>
    split at j
    · rename_i vx G
      have ae:S'.df=S.df:=by
        unfold M3Z at j
        split at j
        · cases j; rfl
        · cases j; rfl
        · split at j
          · split at j
            · obtain ⟨S1,h1,A⟩:=Option.map_eq_some_iff.1 j;cases A;exact aq h1
            · cases j
          · cases j
        · split at j
          · cases j; rfl
          · cases j
        · split at j
          · split at j
            · obtain ⟨S1,h1,A⟩:=Option.map_eq_some_iff.1 j;cases A;rfl
            · cases j
          · cases j
        · cases j
      exact ad rfl rfl ae (Ma9 h j (D x (by simp) _ G) hn hx)
    · cases j
  case makeFunc fn first cap=>
    cases fn <;> simp only at j <;> first | (cases j; done) | skip
    split at j
    · rename_i a' c' h1 A
      cases j;refine PU (w':=w) (by rw [ha]; rfl) (O p _ w a.defers ⟨first.toList.map (ev fr),cap.toList.map (ev fr),?_,M1g h1 fun y hy=>D y (by simp only [Array.toList_append,List.mem_append]; exact .inl hy),M1g A fun y hy=>D y (by simp only [Array.toList_append,List.mem_append]; exact .inr hy)⟩ h (Ch.refl _ _ _) id);rw [V4,V4]
    · cases j
  case makeMap t r=>
    cases r with
    | none=>
      simp only at j;obtain ⟨S1,h1,A⟩:=Option.map_eq_some_iff.1 j;cases A;exact ad rfl rfl (P2 h1).2.1 (M6L h h1 hn hx)
    | some x=>simp only at j; cases j
  case makeSlice t l c=>
    split at j
    · rename_i e n q1 l' q2 c' av hl hc
      split at j
      · rename_i z U
        split at j
        · rename_i I
          obtain ⟨S1,h1,A⟩:=Option.map_eq_some_iff.1 j;cases A;have a4:ev fr l=.int q1 l':=D l (by simp) _ hl;have an:ev fr c=.int q2 c':=D c (by simp) _ hc;have:=M4E (P:=P) (k:=q1) (k':=q2) h av U I h1 hn hx;rw [← a4,← an] at this;exact ad rfl rfl (aq h1) this
        · cases j
      · cases j
    · cases j
  case slice t x lo hi mx=>
    split at j
    · rename_i vx bk bh bm G a5 a2 hmx
      obtain ⟨v,h1,A⟩:=Option.map_eq_some_iff.1 j;cases A;have hm:∀ y,y∈lo.toList∨y∈hi.toList∨y∈mx.toList→y∈(#[x]++lo.toArray++hi.toArray++mx.toArray).toList:=fun y hy=>by
        have e:∀ o:Option Operand,o.toArray.toList=o.toList:=fun o=>by cases o <;> rfl
        simp only [Array.toList_append,List.mem_append,e];rcases hy with hy | hy | hy
        · exact .inl (.inl (.inr hy))
        · exact .inl (.inr hy)
        · exact .inr hy
      obtain ⟨u,B,E⟩:=M91 (P:=P) h h1 (D x (by simp) _ G) (M4J a5 fun y hy=>D y (hm y (.inl hy))) (M4J a2 fun y hy=>D y (hm y (.inr (.inl hy)))) (M4J hmx fun y hy=>D y (hm y (.inr (.inr hy))));exact X rfl rfl B E
    · cases j
  case fieldAddr s x i=>
    split at j
    · rename_i b off o t hv aw
      split at j
      · rename_i n ba
        cases j;obtain ⟨r,base,k,B,E⟩:=D x (by simp) _ hv;refine X rfl rfl (v:=.pointer (some ⟨r,base+off+o,none⟩)) ?_ ⟨r,base,k,B,by rw [Nat.add_assoc]⟩;rw [E];exact M4F aw ba r (base+off) w
      · cases j
    · cases j
  case field s x i=>
    split at j
    · rename_i l o t hv aw
      obtain ⟨v,h1,A⟩:=Option.map_eq_some_iff.1 j;cases A;obtain ⟨vs,B,E⟩:=D x (by simp) _ hv;obtain ⟨u,Z,h6⟩:=M8Z aw h1 E w;exact X rfl rfl (by rw [B]; exact Z) h6
    · cases j
  case indexAddr t x i=>
    split at j
    · rename_i vx vi G hi
      obtain ⟨v,h1,A⟩:=Option.map_eq_some_iff.1 j;cases A;obtain ⟨u,B,E⟩:=M4G h1 (D x (by simp) _ G) (D i (by simp) _ hi) w;exact X rfl rfl B E
    · cases j
  case index t x i=>
    split at j
    · rename_i vx vi G hi
      obtain ⟨v,h1,A⟩:=Option.map_eq_some_iff.1 j;cases A;obtain ⟨u,B,E⟩:=M90 h1 (D x (by simp) _ G) (D i (by simp) _ hi) w;exact X rfl rfl B E
    · cases j
  case lookup t x i ok=>
    split at j
    · rename_i vx vi G hi
      obtain ⟨v,h1,A⟩:=Option.map_eq_some_iff.1 j;cases A;obtain ⟨u,B,E⟩:=M83 (P:=P) h h1 (D x (by simp) _ G) (D i (by simp) _ hi);exact X rfl rfl B E
    · cases j
  case mapUpdate t m k v=>
    split at j
    · rename_i vm vk vv hm hk hv
      obtain ⟨S1,h1,A⟩:=Option.map_eq_some_iff.1 j;cases A;obtain ⟨w',B,E,Z⟩:=M4H (P:=P) h h1 (D m (by simp) _ hm) (D k (by simp) _ hk) (D v (by simp) _ hv);have ae:S'.df=S.df:=by
        unfold M1b at h1
        split at h1
        · split at h1
          · split at h1
            · exact (P2 h1).2.1
            · exact (P2 h1).2.1
            · cases h1
          · cases h1
        · cases h1
      exact aC rfl rfl ae rfl B E Z
    · cases j
  case extract x i=>
    split at j
    · rename_i l hv
      obtain ⟨v,h1,A⟩:=Option.map_eq_some_iff.1 j;cases A;obtain ⟨vs,B,E⟩:=D x (by simp) _ hv;obtain ⟨u,Z,h6⟩:=E.get h1;refine X rfl rfl (v:=u) ?_ h6;rw [B];simp [Instr.extract,Z]
    · cases j
  case defer c=>
    obtain ⟨callee,args,J⟩:=c
    split at j
    · rename_i x aD aU
      simp only at aD aU;subst aD
      split at j
      · rename_i k a' c' hv
        cases j;obtain ⟨va,vc,h1,A,B⟩:=D x (by simp [Call.operands]) _ hv;have he:(execOp (ev fr) ⟨dst,.defer ⟨.value x,args,J⟩,ty,pos,Y,guard⟩).run P w=.ok (.defer ⟨.fn (.func k) vc.toArray,va.toArray++args.map (ev fr)⟩) w:=by
          simp only [execOp,resolve,h1,Deferred.ofValue,pure_bind];rfl
        unfold Oper.wp;rw [ha,he];exact O p undef w (⟨.fn (.func k) vc.toArray,va.toArray++args.map (ev fr)⟩::a.defers) ⟨[],rfl,trivial⟩ (h.congr (fun _ _=>rfl) (Nat.le_refl _) fun _ _=>rfl) (Ch.refl _ _ _) fun hd=>⟨⟨_,_,rfl⟩,hd⟩
      · cases j
    · cases j
  case call c=>
    obtain ⟨callee,args,J⟩:=c
    split at j
    · rename_i gs ax
      simp only at ax j
      split at j
      · rename_i x
        split at j
        · rename_i k a' c' hv
          obtain ⟨va,vc,h1,A,B⟩:=D x (by simp [Call.operands]) _ hv;have F:=M1g ax fun y hy=>D y (by simp only [Call.operands,Array.toList_append,List.mem_append]; exact .inr hy)
          obtain ⟨c1,c2,c3⟩:=aX _ _ _ _ _ j;obtain ⟨a9,fn,a0,n1,n2⟩:=c3 p w _ (A.append (F.append B)) h;have he:(execOp (ev fr) ⟨dst,.call ⟨.value x,args,J⟩,ty,pos,Y,guard⟩).run P w=.ok (.enter k (va++(args.toList.map (ev fr)++vc)).toArray) w:=by
            have e:(va++(args.toList.map (ev fr)++vc)).toArray=va.toArray++args.map (ev fr)++vc.toArray:=by
              apply Array.ext'; simp
            rw [e];simp only [execOp,resolve,h1,Deferred.ofValue,pure_bind,invoke];exact Yw _ _ a0 n1 n2
          unfold Oper.wp;rw [ha,he];refine Calls.mono a9 fun e w' ⟨v,aY,q,hq⟩=>?_
          subst aY;exact O q v w' a.defers hq.1 hq.2.1 (hq.2.2.mono fun b I=>.inr I) (by rw [c1]; exact id)
        · cases j
      · rename_i b
        have F:=M1g ax fun y hy=>D y (by simp only [Call.operands,Array.toList_append,List.mem_append]; exact .inr hy)
        have bi:∀ {s:Sem Value} {v:Value} {w':World} {q:Ren},(∀ cs:Array Bool,builtin b J ty cs (args.map (ev fr))=(do pure (.value (← s)):Sem Next))→s.run P w=.ok v w'→RV q g v→RH q S' w'→Ch (· = name) p w q w'→S'.df=S.df→
            Oper.wp P ⟨dst,.call ⟨.builtin b,args,J⟩,ty,pos,Y,guard⟩ a w N Q:=by
          intro s v w' q I h1 A B E Z;refine PU (v:=v) (w':=w') ?_ (O q v w' a.defers A B (E.mono fun b I=>.inl I) (by rw [Z]; exact id));rw [ha];simp only [execOp,resolve,pure_bind,invoke];refine (congrArg (fun s=>Sem.run P s w) (I _)).trans ?_;exact MG s v w w' h1
        unfold M3e at j;have H:args.map (ev fr)=(args.toList.map (ev fr)).toArray:=(V4 _ _).symm
        split at j
        · rename_i t x aE
          obtain ⟨n,h1,A⟩:=Option.map_eq_some_iff.1 j;cases A;have am:J = #[t]:=by cases J; simp_all
          subst am;generalize hl:args.toList.map (ev fr)=vs at F H
          match vs,F,H with
          | [v],F,H=>
            exact bi (fun _=>rfl) (by rw [H]; exact Mbh h h1 F.1) rfl h (Ch.refl _ _ _) rfl
        · rename_i t t2 x y aE
          have am:J = #[t,t2]:=by cases J; simp_all
          subst am;generalize hl:args.toList.map (ev fr)=vs at F H
          match vs,F,H with
          | [v,u],F,H=>
            obtain ⟨q,v',w',h1,A,B,E⟩:=M84 (P:=P) (ty:=ty) h j F.1 F.2.1 hn hx;exact bi (fun _=>rfl) (by rw [H]; exact h1) A B E (M86 j)
        · rename_i t x aE
          have am:J = #[t]:=by cases J; simp_all
          subst am;generalize hl:args.toList.map (ev fr)=vs at F H
          match vs,F,H with
          | [v],F,H=>
            obtain ⟨v',w',h1,A,B,E⟩:=M95 (P:=P) (ty:=ty) h j F.1;exact bi (fun _=>rfl) (by rw [H]; exact h1) A B (E.mono fun b I=>I.elim) (M99 j)
        · rename_i x l
          obtain ⟨v0,h1,A⟩:=Option.map_eq_some_iff.1 j;cases A;obtain ⟨v',B,E⟩:=Mbi (P:=P) (ts:=J) (ty:=ty) h1 F w;exact bi (fun _=>rfl) (by rw [H]; exact B) E h (Ch.refl _ _ _) rfl
        · cases j
      · cases j
    · cases j
  all_goals (cases j)
structure RA (n:Nat) (a:Act) (fr:Fr):Prop where
  size:a.tmps.size=n
  at_:∀ i,a.tmps.getD i undef=fr i
theorem RA.eval {n:Nat}{a:Act}{fr:Fr}(h:RA n a fr):a.eval=ev fr:=by
  funext x;cases x <;> simp only [Act.eval,ev]
  exact h.at_ _
theorem RA.put {n:Nat}{a:Act}{fr:Fr}(h:RA n a fr){d:Option Tmp}(hd:∀ t,d=some t→t<n)(v:Value):RA n (a.put d v) (MI fr d v):=by
  cases d with
  | none=>exact h
  | some t=>
    have j:=hd t rfl;refine ⟨by simp [Act.put,h.size],fun i=>?_⟩;simp only [Act.put,MI,V.put]
    by_cases g:i=t
    · subst g;simp [h.size,j]
    · rw [VP g];simp only [cond_false];rw [← h.at_ i];simp [Array.getElem?_setIfInBounds_ne (Ne.symm g)]
theorem RA.defers {n:Nat}{a:Act}{fr:Fr}(h:RA n a fr)(ds:List Deferred):RA n { a with defers:=ds } fr:=⟨h.size,h.at_⟩
theorem M3m (fr:Fr)(d:Option Tmp)(v:Value)(t:Nat):MI fr d v t=if d=some t then v else fr t:=by
  cases d with
  | none=>simp [MI]
  | some d=>
    unfold MI V.put
    by_cases h:t=d
    · subst h; simp
    · simp only [VP h];rw [if_neg (by simpa using fun e=>h e.symm)];rfl
def RF' (p:Ren) (f:GF) (fr:Fr):Prop:=∀ t g,f.get t=some g→RV p g (fr t)
theorem RF'.mono {p q:Ren}{f:GF}{fr:Fr}(h:RF' p f fr)(r:Le p q):RF' q f fr:=fun t g j=>(h t g j).mono r
theorem RF'.put {p:Ren}{f f':GF}{fr:Fr}(h:RF' p f fr){n:Nat}{d:Option Tmp}{g:GV}{v:Value}(r:M6F n f d g=some f')(hv:RV p g v):RF' p f' (MI fr d v):=fun t q j=>by
  rw [(Yp r).2] at j;rw [M3m]
  by_cases e:d=some t
  · rw [if_pos e] at j ⊢; cases j; exact hv
  · rw [if_neg e] at j ⊢; exact h t q j
theorem M6N {p:Ren}{f:GF}{fr:Fr}{x:Operand}{g:GV}(h:Z7 f x=some g)(j:∀ t,x=.tmp t→∀ g,f.get t=some g→RV p g (fr t)):RV p g (ev fr x):=by
  cases x with
  | tmp t=>exact j t rfl g h
  | const v=>exact M5E h
  | global k=>cases h
  | func k=>cases h; exact ⟨[],[],rfl,trivial,trivial⟩
theorem M2c.of {p:Ren}{f:GF}{fr:Fr}{xs:List Operand}(h:∀ t,.tmp t∈xs→∀ g,f.get t=some g→RV p g (fr t)):M2c p f fr xs:=fun x q g j=>M6N j fun t e=>h t (e ▸ q)
theorem M6O {n:Nat}{a:Act}{fr:Fr}(h:RA n a fr)(all:List Oper)(j:Nat) :
    yielded all.toArray a.tmps j=match (all[j]?).bind (·.dst) with
      | some d=>(match fr d with | .bool b=>some b | _=>none)
      | none=>none:=by
  unfold yielded;simp only [List.getElem?_toArray];cases hd:(all[j]?).bind (·.dst) with
  | none=>rfl
  | some d=>
    simp only [Option.bind_some];have:=h.at_ d;cases g:a.tmps[d]? with
    | none=>
      have e:fr d=undef:=by rw [← this]; simp [g]
      simp only [e,undef]
    | some v=>
      have e:fr d=v:=by rw [← this]; simp [g]
      simp only [e];cases v <;> rfl
theorem RV.notBool {p:Ren}{g:GV}{v:Value}(h:RV p g v)(q:∀ b,g≠.bool b):(match v with | .bool b=>some b | _=>(none:Option Bool))=none:=by
  cases g <;> simp only [RV] at h <;> first
    | (exact absurd rfl (q _))
    | (subst h; rfl)
    | (obtain ⟨r,base,n,h1,rfl⟩:=h; rfl)
    | (obtain ⟨r,base,n,cap,h1,rfl,j⟩:=h; rfl)
    | (obtain ⟨a,c,rfl⟩:=h; rfl)
    | (obtain ⟨r,h1,rfl⟩:=h; rfl)
    | (obtain ⟨u,A,rfl,h1,j⟩:=h; rfl)
    | (obtain ⟨vs,rfl,h1⟩:=h; rfl)
    | (obtain ⟨g,n,c,h1,j,rfl⟩:=h; rfl)
    | (obtain ⟨ad,vs,rfl,h⟩:=h; rfl)
    | (obtain ⟨a,n,c,rfl,h⟩:=h; rfl)
    | (obtain ⟨a,c,e,h⟩:=h; cases e; rfl)
def Ys (ops:List Oper) (o:Oper):List Tmp:=match o.guard with
  | some (j,_)=>((ops[j]?).bind (·.dst)).toList
  | none=>[]
theorem M1h {n:Nat}{a:Act}{fr:Fr}(F:RA n a fr){ops:List Oper}{o:Oper}{f:GF}{b:Bool}{p:Ren}(h:M3f ops o f=some b)(hs:∀ d∈Ys ops o,∀ g,f.get d=some g→RV p g (fr d)) :
    Region.wanted o (yielded ops.toArray a.tmps)=b:=by
  unfold M3f at h;unfold Region.wanted;unfold Ys at hs
  split at h
  · rename_i r
    cases h;rw [r]
  · rename_i j G r
    rw [r] at hs;rw [r];simp only [M6O F]
    split at h
    · rename_i q E
      split at h
      · rename_i d hd
        have u:(ops[j]?).bind (·.dst)=some d:=by rw [E]; exact hd
        simp only [u] at hs;simp only [u]
        split at h
        · rename_i c B
          cases h;have:=hs d (by simp) _ B;have this:fr d=.bool c:=this;rw [this];simp
        · rename_i g D A
          cases h;have hv:=hs d (by simp) _ A;have:=hv.notBool (fun b e=>D b (by rw [e] at A; exact e));rw [this];rfl
        · cases h
      · cases h
    · cases h
def Zx (name:Nat) (S S':St):Prop:=S'.nx=S.nx∧S'.df=S.df∧∀ b,b≠name→S'.h.get b=S.h.get b∧S'.ow.get b=S.ow.get b
theorem Zx.rfl' (name:Nat)(S:St):Zx name S S:=⟨rfl,rfl,fun _ _=>⟨rfl,rfl⟩⟩
theorem Zx.put {name:Nat}{S S':St}{g:Option GB}(h:S.put name g=some S'):Zx name S S':=let ⟨h1,h2,h3⟩:=P2 h; ⟨h1,h2,fun b j=>⟨by rw [h3,if_neg j],by rw [M1Q h]⟩⟩
theorem Zx.newB {name:Nat}{S S':St}{l:List GV}(h:newB S name l=some S'):Zx name S S':=.put (Vb h).2
theorem M47 {S S':St}{b off:Nat}{l:List GV}(h:M0w S b off l=some S'):S'.nx=S.nx:=by
  obtain ⟨_,_,_,_,h⟩:=XF h;exact (P2 h).1
theorem M6P {P:Program}{name t r:Nat}{S S':St}{s x g:GV}(ha:YV P name t r S s x=some (g,S')):S'.nx=S.nx:=by
  unfold YV at ha
  split at ha
  · split at ha
    · split at ha
      · cases ha
      · split at ha
        · cases ha; rfl
        · cases ha; rfl
        · cases ha
        · obtain ⟨S1,h1,j⟩:=Option.map_eq_some_iff.1 ha;cases j;exact (Zx.newB h1).1
        · split at ha
          · split at ha
            · obtain ⟨S1,h1,j⟩:=Option.map_eq_some_iff.1 ha;cases j;exact (Zx.newB h1).1
            · cases ha
          · cases ha
        · split at ha
          · split at ha
            · rename_i q
              obtain ⟨S1,h1,j⟩:=Option.map_eq_some_iff.1 ha;cases j;rw [(Zx.newB h1).1];exact (P2 q).1
            · cases ha
          · cases ha
        · cases ha
    · cases ha
  · cases ha
theorem M6Q {P:Program}{name s d:Nat}{S S':St}{x g:GV}(j:M3Z P name s d x S=some (g,S')):Zx name S S':=by
  unfold M3Z at j
  split at j
  · cases j; exact .rfl' _ _
  · cases j; exact .rfl' _ _
  · split at j
    · split at j
      · obtain ⟨S1,h1,q⟩:=Option.map_eq_some_iff.1 j;cases q;exact .newB h1
      · cases j
    · cases j
  · split at j
    · cases j; exact .rfl' _ _
    · cases j
  · split at j
    · split at j
      · obtain ⟨S1,h1,q⟩:=Option.map_eq_some_iff.1 j;cases q;exact .rfl' _ _
      · cases j
    · cases j
  · cases j
theorem PC {α:Type}{name:Nat}{S S':St}{g:GV}{o:Option α}{c:α→GV}(h:(o.map fun v=>(c v,S))=some (g,S')):Zx name S S':=by
  obtain ⟨_,_,j⟩:=Option.map_eq_some_iff.1 h;cases j;exact .rfl' _ _
theorem ZU {name:Nat}{S S':St}{g c:GV}{l:List GV}(h:((newB S name l).map fun S=>(c,S))=some (g,S')):Zx name S S':=by
  obtain ⟨_,h1,j⟩:=Option.map_eq_some_iff.1 h;cases j;exact .newB h1
theorem M9a {P:Program}{call:Cl}(E:M4K P call){name:Nat}{o:Oper}{f:GF}{S S':St}{g:GV}(j:gOp P call name o f S=some (g,S')):S.nx≤S'.nx∧(M1P o.op=true→Zx name S S'):=by
  obtain ⟨dst,op,ty,pos,F,guard⟩:=o;have q:Zx name S S'→S.nx≤S'.nx∧(M1P op=true→Zx name S S'):=fun h=>⟨Nat.le_of_eq h.1.symm,fun _=>h⟩
  have A:S'.nx=S.nx→M1P op=false→S.nx≤S'.nx∧(M1P op=true→Zx name S S'):=fun h u=>⟨Nat.le_of_eq h.symm,fun B=>by rw [u] at B; cases B⟩
  unfold gOp at j;cases op <;> simp only at j
  case move=>exact q (PC j)
  case assign=>exact q (PC j)
  case pick=>split at j <;> first | exact q (PC j) | cases j
  case alloc=>split at j <;> first | exact q (ZU j) | cases j
  case box=>split at j <;> first | exact q (ZU j) | cases j
  case build=>
    split at j
    · split at j <;> first | exact q (PC j) | cases j
    · split at j <;> first | exact q (PC j) | cases j
    · cases j
  case buildSlice=>
    split at j
    · split at j
      · split at j
        · split at j <;> first | exact q (ZU j) | cases j
        · cases j
      · cases j
    · cases j
  case load=>split at j <;> first | exact q (PC j) | cases j
  case store=>
    split at j
    · split at j
      · obtain ⟨S1,h1,u⟩:=Option.map_eq_some_iff.1 j;cases u;exact A (M47 h1) rfl
      · cases j
    · cases j
  case nilCheck=>
    split at j
    · split at j
      · cases j; exact q (.rfl' _ _)
      · cases j
    · cases j
  case binOp=>split at j <;> first | exact q (PC j) | cases j
  case unOp=>split at j <;> first | exact q (PC j) | cases j
  case convert=>split at j <;> first | exact q (M6Q j) | cases j
  case makeFunc fn _ _=>
    cases fn <;> simp only at j <;> first | (cases j; done) | skip
    split at j
    · cases j; exact q (.rfl' _ _)
    · cases j
  case makeMap t r=>
    cases r with
    | none=>
      simp only at j;obtain ⟨S1,h1,u⟩:=Option.map_eq_some_iff.1 j;cases u;exact q (.put h1)
    | some x=>simp only at j; cases j
  case makeSlice=>
    split at j
    · split at j
      · split at j <;> first | exact q (ZU j) | cases j
      · cases j
    · cases j
  case slice=>split at j <;> first | exact q (PC j) | cases j
  case fieldAddr=>
    split at j
    · split at j
      · cases j; exact q (.rfl' _ _)
      · cases j
    · cases j
  case field=>split at j <;> first | exact q (PC j) | cases j
  case indexAddr=>split at j <;> first | exact q (PC j) | cases j
  case index=>split at j <;> first | exact q (PC j) | cases j
  case lookup=>split at j <;> first | exact q (PC j) | cases j
  case mapUpdate=>
    split at j
    · obtain ⟨S1,h1,u⟩:=Option.map_eq_some_iff.1 j;cases u;refine A ?_ rfl;unfold M1b at h1
      split at h1
      · split at h1
        · split at h1
          · exact (P2 h1).1
          · exact (P2 h1).1
          · cases h1
        · cases h1
      · cases h1
    · cases j
  case extract=>split at j <;> first | exact q (PC j) | cases j
  case defer c=>
    obtain ⟨callee,args,D⟩:=c
    split at j
    · split at j
      · cases j; exact A rfl rfl
      · cases j
    · cases j
  case call c=>
    obtain ⟨callee,args,D⟩:=c
    split at j
    · simp only at j
      split at j
      · split at j
        · exact ⟨(E _ _ _ _ _ j).2.1,fun h=>by cases h⟩
        · cases j
      · unfold M3e at j
        split at j
        · exact q (PC j)
        · exact A (M6P j) rfl
        · refine A ?_ rfl;unfold M1O at j
          split at j
          · split at j
            · split at j
              · obtain ⟨S1,h1,u⟩:=Option.map_eq_some_iff.1 j;cases u;exact M47 h1
              · cases j
            · cases j
          · cases j; rfl
          · cases j; rfl
          · cases j; rfl
          · cases j
        · exact q (PC j)
        · cases j
      · cases j
    · cases j
  all_goals (cases j)
structure M1S (P:Program) (op:GO):Prop where
  sound:∀ {name:Nat} {o:Oper} {f:GF} {S S':St} {g:GV},op.run name o f S=some (g,S')→∀ {p:Ren} {a:Act} {fr:Fr} {w:World},a.eval=ev fr→M2c p f fr o.op.operands.toList→RH p S w→X9 p name→name<S.nx→∀ {N:Act→World→Prop} {Q:Exit→Act→World→Prop},
    (∀ q u w' ds,RV q g u→RH q S' w'→Ch (fun b=>b=name∨S.nx≤b∧b<S'.nx) p w q w'→(DF a.defers S.df→DF ds S'.df)→N (({ a with defers:=ds }:Act).put o.dst u) w')→o.wp P a w N Q
  keep:∀ {name:Nat} {o:Oper} {f:GF} {S S':St} {g:GV},op.run name o f S=some (g,S')→S.nx≤S'.nx∧(op.fl o f=true→Zx name S S')
theorem M9b {P:Program}{call:Cl}(g:M4K P call):M1S P ⟨gOp P call,fun o _=>M1P o.op⟩:=⟨fun h=>M87 g h,fun h=>M9a g h⟩
theorem M5O {P:Program}{op:GO}(X:M1S P op){n base i:Nat}{ops:List Oper}{o:Oper}{f f':GF}{S S':St}(hs:stepG op n ops base i o f S=some (f',S')){p:Ren}{a:Act}{fr:Fr}{w:World}(j:RA n a fr)
    (U:M2c p f fr o.op.operands.toList) (E:∀ d∈Ys ops o,∀ g,f.get d=some g→RV p g (fr d)) (h:RH p S w) (O:X9 p (base+i)) (Y:base+i<S.nx) (hd:DF a.defers S.df)
    {N:Act→World→Prop} {Q:Exit→Act→World→Prop}
    (D:∀ q g u a' B w',M6F n f o.dst g=some f'→RV q g u→B=MI fr o.dst u→RA n a' B→RH q S' w'→Ch (fun b=>b=base+i∨S.nx≤b∧b<S'.nx) p w q w'→DF a'.defers S'.df→N a' w') :
    if Region.wanted o (yielded ops.toArray a.tmps) then o.wp P a w N Q else N (a.put o.dst undef) w:=by
  unfold stepG at hs
  split at hs
  · rename_i A
    rw [M1h j A E];simp only [if_true]
    split at hs
    · rename_i g S1 J
      obtain ⟨f1,h1,r⟩:=Option.map_eq_some_iff.1 hs;cases r;refine X.sound J j.eval U h O Y fun q u w' ds F G H I=>?_
      refine D q g u _ _ w' h1 F rfl ((j.defers ds).put (Yp h1).1 u) G H ?_;have:=I hd;cases o.dst <;> exact this
    · cases hs
  · rename_i A
    rw [M1h j A E];simp only [Bool.false_eq_true,if_false];obtain ⟨f1,h1,r⟩:=Option.map_eq_some_iff.1 hs;cases r;refine D p (.tup []) undef _ _ w h1 ⟨[],rfl,trivial⟩ rfl (j.put (Yp h1).1 undef) h (Ch.refl _ _ _) ?_;cases o.dst <;> exact hd
  · cases hs
theorem Zy {P:Program}{op:GO}(r:M1S P op){n base i:Nat}{ops:List Oper}{o:Oper}{f f':GF}{S S':St}(hs:stepG op n ops base i o f S=some (f',S')):S.nx≤S'.nx:=by
  unfold stepG at hs
  split at hs
  · split at hs
    · rename_i g S1 q
      obtain ⟨f1,h1,j⟩:=Option.map_eq_some_iff.1 hs;cases j;exact (r.keep q).1
    · cases hs
  · obtain ⟨f1,h1,j⟩:=Option.map_eq_some_iff.1 hs;cases j;exact Nat.le_refl _
  · cases hs
theorem M4L {P:Program}{op:GO}(g:M1S P op){n base:Nat}{ops:List Oper}:∀ (l:List Oper) (i:Nat) {f f':GF} {S S':St},M7Z op n ops base l i f S=some (f',S')→S.nx≤S'.nx
  | [],i,f,f',S,S',hs=>by cases hs; exact Nat.le_refl _
  | o::l,i,f,f',S,S',hs=>by
    unfold M7Z at hs
    split at hs
    · rename_i f1 S1 j
      exact Nat.le_trans (Zy g j) (M4L g l _ hs)
    · cases hs
theorem M7v {P:Program}{op:GO}(r:M1S P op){n base:Nat}{ops:List Oper}{QA:Exit→Act→World→Prop}:∀ (l:List Oper) (i:Nat) {f f':GF} {S S':St},M7Z op n ops base l i f S=some (f',S')→
    ∀ {p:Ren} {a:Act} {fr:Fr} {w:World},RA n a fr→RF' p f fr→RH p S w→(∀ j,i≤j→j<i+l.length→X9 p (base+j))→base+(i+l.length)≤S.nx→DF a.defers S.df→
    (∀ q a' A w',RA n a' A→RF' q f' A→RH q S' w'→Ch (fun b=>base≤b∧b<S'.nx) p w q w'→DF a'.defers S'.df→QA .normal a' w')→wpList P ops.toArray QA l a w
  | [],i,f,f',S,S',hs,p,a,fr,w,hr,hf,h,_,_,hd,hQ=>by
    cases hs;exact hQ p a fr w hr hf h (Ch.refl _ _ _) hd
  | o::l,i,f,f',S,S',hs,p,a,fr,w,hr,hf,h,hn,hx,hd,hQ=>by
    unfold M7Z at hs
    split at hs
    · rename_i f1 S1 F
      have ai:=Zy r F;have aj:S1.nx≤S'.nx:=M4L r l _ hs;simp only [List.length_cons] at hn hx;have key:=M5O (Q:=QA) (N:=wpList P ops.toArray QA l) r F hr (.of fun t _ g D=>hf t g D) (fun d _ g D=>hf d g D) h (hn i (Nat.le_refl _) (by omega)) (by omega) hd
        (fun q g u a' A w' h1 I J O U B X=>by
          subst J;refine M7v r l (i+1) hs O ((hf.mono B.le).put h1 I) U (fun j ag ah=>?_) (by omega) X fun q' G H af Z k2 k3 k4 k5=>?_
          · refine Classical.byContradiction fun Y=>?_
            rcases B.new (base+j) Y with e | e | e
            · exact e (hn j (by omega) (by omega))
            · omega
            · omega
          · refine hQ q' G H af Z k2 k3 (Ch.trans (B.mono fun b hb=>?_) k4) k5;rcases hb with rfl | hb
            · exact ⟨by omega,by omega⟩
            · exact ⟨by omega,by omega⟩)
      unfold wpList
      split
      · rename_i E; rw [if_pos E] at key; exact .inl key
      · rename_i E; rw [if_neg E] at key; exact key
    · cases hs
theorem Mbj:∀ (c d:GC),gcb c d=true→c=d
  | .kn c,.kn d,h=>by rw [Nat.eq_of_beq_eq_true h]
  | .op c,.op d,h=>by rw [Nat.eq_of_beq_eq_true h]
  | .kn _,.op _,h=>by cases h
  | .op _,.kn _,h=>by cases h
mutual
theorem GV.beq_eq:∀ (x y:GV),GV.beq x y=true→x=y
  | .bool a,y,h=>by cases y <;> simp only [GV.beq] at h <;> first | (cases h; done) | (rw [eq_of_beq h])
  | .int k a,y,h=>by
    cases y <;> simp only [GV.beq] at h <;> first | (cases h; done) | skip
    split at h
    · rename_i e
      rw [of_decide_eq_true e,of_decide_eq_true h]
    · cases h
  | .str s,y,h=>by cases y <;> simp only [GV.beq] at h <;> first | (cases h; done) | (rw [of_decide_eq_true h])
  | .nilp,y,h=>by cases y <;> simp only [GV.beq] at h <;> first | (cases h; done) | rfl
  | .ptr b i,y,h=>by
    cases y <;> simp only [GV.beq] at h <;> first | (cases h; done) | skip
    simp only [Bool.and_eq_true] at h;rw [Nat.eq_of_beq_eq_true h.1,Nat.eq_of_beq_eq_true h.2]
  | .nils,y,h=>by cases y <;> simp only [GV.beq] at h <;> first | (cases h; done) | rfl
  | .sl b i l c,y,h=>by
    cases y <;> simp only [GV.beq] at h <;> first | (cases h; done) | skip
    simp only [Bool.and_eq_true] at h;rw [Nat.eq_of_beq_eq_true h.1.1.1,Nat.eq_of_beq_eq_true h.1.1.2,Nat.eq_of_beq_eq_true h.1.2,Mbj _ _ h.2]
  | .sle,y,h=>by cases y <;> simp only [GV.beq] at h <;> first | (cases h; done) | rfl
  | .nilm,y,h=>by cases y <;> simp only [GV.beq] at h <;> first | (cases h; done) | rfl
  | .map b,y,h=>by cases y <;> simp only [GV.beq] at h <;> first | (cases h; done) | (rw [Nat.eq_of_beq_eq_true h])
  | .nilf,y,h=>by cases y <;> simp only [GV.beq] at h <;> first | (cases h; done) | rfl
  | .func f a c,y,h=>by
    cases y <;> simp only [GV.beq] at h <;> first | (cases h; done) | skip
    simp only [Bool.and_eq_true] at h;rw [Nat.eq_of_beq_eq_true h.1.1,ZV _ _ h.1.2,ZV _ _ h.2]
  | .agg l,y,h=>by cases y <;> simp only [GV.beq] at h <;> first | (cases h; done) | (rw [ZV _ _ h])
  | .tup l,y,h=>by cases y <;> simp only [GV.beq] at h <;> first | (cases h; done) | (rw [ZV _ _ h])
theorem ZV:∀ (l m:List GV),M5B l m=true→l=m
  | [],[],_=>rfl
  | x::l,y::m,h=>by
    simp only [M5B,Bool.and_eq_true] at h;rw [GV.beq_eq x y h.1,ZV l m h.2]
  | [],_::_,h=>by cases h
  | _::_,[],h=>by cases h
end
theorem Mab:∀ (a b:Option GB),MbH a b=true→a=b
  | none,none,_=>rfl
  | some (.cells a),some (.cells b),h=>by rw [ZV a b h]
  | some (.map []),some (.map []),_=>rfl
  | none,some _,h=>by cases h
  | some (.cells _),none,h=>by cases h
  | some (.cells _),some (.map _),h=>by cases h
  | some (.map []),none,h=>by cases h
  | some (.map (_::_)),none,h=>by cases h
  | some (.map []),some (.cells _),h=>by cases h
  | some (.map (_::_)),some (.cells _),h=>by cases h
  | some (.map []),some (.map (_::_)),h=>by cases h
  | some (.map (_::_)),some (.map _),h=>by cases h
theorem VM {l:List Nat}{i:Nat}:W1 l i=true↔i∈l:=by
  unfold W1;rw [List.any_eq_true];constructor
  · rintro ⟨x,g,h⟩;rw [Nat.eq_of_beq_eq_true h]; exact g
  · intro h;exact ⟨i,h,by simp⟩
theorem P3 {l:List Nat}{i j:Nat}:W1 (j::l) i=true↔i=j∨W1 l i=true:=by rw [VM,VM,List.mem_cons]
def ZW (op:GO) (ops:Array Oper) (base:Nat) (f:GF) (S:St) (i:Nat):Prop:=∃ o,ops[i]? = some o∧M3g ops i o=true∧
  ((M3f ops.toList o f=some true∧op.fl o f=true∧∃ v S',op.run (base+i) o f S=some (v,S')∧(S'.h.get (base+i)=S.h.get (base+i)∧S'.ow.get (base+i)=S.ow.get (base+i))∧∀ d,o.dst=some d→∀ u,f.get d=some u→u=v)∨
    (M3f ops.toList o f=some false∧∀ d,o.dst=some d→∀ u,f.get d=some u→u=.tup []))
inductive M3n (op:GO) (n:Nat) (ops:Array Oper) (base:Nat) (f':GF) (S':St):List (Nat×Oper)→List Nat→List Nat→GF→St→Prop where
  | fin {done loose:List Nat}:(∀ i,W1 loose i=true→ZW op ops base f' S' i)→M3n op n ops base f' S' [] done loose f' S'
  | flt {rem:List (Nat×Oper)} {done loose:List Nat} {f f1:GF} {S S1:St} {i:Nat} {o:Oper}:(i,o)∈rem→(X8 o done&&Ma4 op ops i o f)=true→stepG op n ops.toList base i o f S=some (f1,S1)→
      M3n op n ops base f' S' (rem.filter fun p=>!(Nat.beq p.1 i)) (i::done) (i::loose) f1 S1→M3n op n ops base f' S' rem done loose f S
  | mov {rem:List (Nat×Oper)} {done loose:List Nat} {f f1:GF} {S S1:St} {i:Nat} {o:Oper}:(∀ i,W1 loose i=true→ZW op ops base f S i)→rem.filter (fun p=>X8 p.2 done)=[(i,o)]→stepG op n ops.toList base i o f S=some (f1,S1)→
      M3n op n ops base f' S' (rem.filter fun p=>!(Nat.beq p.1 i)) (i::done) (loose.filter fun j=>!(M3H ops 8 i j)) f1 S1→M3n op n ops base f' S' rem done loose f S
theorem M5P {α:Type}{x:Option α}(h:M8V x=true):x=none:=by cases x with | none=>rfl | some _=>cases h
theorem M88 {op:GO}{ops:Array Oper}{base:Nat}{f:GF}{S:St}{i:Nat}(h:M6G op ops base f S i=true):ZW op ops base f S i:=by
  unfold M6G at h
  split at h
  · cases h
  · rename_i o E
    simp only [Bool.and_eq_true] at h;refine ⟨o,E,h.1,?_⟩;have g:=h.2
    split at g
    · rename_i A
      simp only [Bool.and_eq_true] at g;obtain ⟨B,j⟩:=g
      split at j
      · rename_i v S' D
        simp only [Bool.and_eq_true] at j;refine .inl ⟨A,B,v,S',D,⟨Mab _ _ j.1.1.1,by rw [M5P j.1.1.2,M5P j.1.2]⟩,fun d hd u r=>?_⟩;have q:=j.2;rw [hd] at q;simp only [r] at q;exact (GV.beq_eq _ _ q).symm
      · cases j
    · rename_i A
      refine .inr ⟨A,fun d hd u r=>?_⟩;rw [hd] at g;simp only [r] at g;exact (GV.beq_eq _ _ g).symm
    · cases g
theorem M7w {l:List (Nat×Oper)}{i:Nat}(h:∀ x∈l,x.1≠i):l.filter (fun p=>!(Nat.beq p.1 i))=l:=List.filter_eq_self.2 fun x g=>by simp [VP (h x g)]
theorem M6R {op:GO}{n base:Nat}{ops:Array Oper}{f':GF}{S':St}:∀ (l g:List (Nat×Oper)) {rem:List (Nat×Oper)} {done j loose q:List Nat} {f f1:GF} {S S1:St},
    M6H op n ops base l done loose f S=some (rem,j,q,f1,S1)→((g++l).map (·.1)).Nodup→M3n op n ops base f' S' (g++rem) j q f1 S1→M3n op n ops base f' S' (g++l) done loose f S
  | [],g,rem,done,j,loose,q,f,f1,S,S1,h,_,hd=>by cases h; exact hd
  | (i,o)::l,g,rem,done,j,loose,q,f,f1,S,S1,h,hnd,hd=>by
    unfold M6H at h
    split at h
    · rename_i B
      split at h
      · rename_i H G F
        rw [List.map_append,List.map_cons] at hnd;have A:=List.nodup_append.1 hnd;have D:=List.nodup_cons.1 A.2.1;have e:(g++(i,o)::l).filter (fun p=>!(Nat.beq p.1 i))=g++l:=by
          rw [List.filter_append,List.filter_cons_of_neg (by simp),M7w (fun x u e=>?_),M7w (fun x u e=>?_)]
          · exact D.1 (List.mem_map.2 ⟨x,u,e⟩)
          · exact A.2.2 x.1 (List.mem_map.2 ⟨x,u,rfl⟩) i (by simp) e
        refine .flt (i:=i) (o:=o) (by simp) B F ?_;rw [e];refine M6R l g h ?_ hd;rw [List.map_append];exact hnd.sublist (List.Sublist.append (List.Sublist.refl _) (List.sublist_cons_self _ _))
      · cases h
    · split at h
      · rename_i I r E
        cases h;have:=M6R l (g++[(i,o)]) E (by simpa using hnd) (by simpa using hd)
        simpa using this
      · cases h
theorem M4M {op:GO}{n base:Nat}{ops:Array Oper}:∀ (l:List (Nat×Oper)) {rem:List (Nat×Oper)} {done g loose j:List Nat} {f f1:GF} {S S1:St},M6H op n ops base l done loose f S=some (rem,g,j,f1,S1)→rem.Sublist l
  | [],rem,done,g,loose,j,f,f1,S,S1,h=>by cases h; exact List.Sublist.refl _
  | (i,o)::l,rem,done,g,loose,j,f,f1,S,S1,h=>by
    unfold M6H at h
    split at h
    · split at h
      · exact (M4M l h).cons _
      · cases h
    · split at h
      · rename_i q
        cases h;exact (M4M l q).cons_cons _
      · cases h
theorem M6S {op:GO}{n base:Nat}{ops:Array Oper}{f':GF}{S':St}:∀ (k:Nat) {rem:List (Nat×Oper)} {done loose:List Nat} {f:GF} {S:St},Ma5 op n ops base k rem done loose f S=some (f',S')→(rem.map (·.1)).Nodup→M3n op n ops base f' S' rem done loose f S
  | 0,rem,done,loose,f,S,h,_=>by cases h
  | k+1,rem,done,loose,f,S,h,hnd=>by
    unfold Ma5 at h
    split at h
    · rename_i F H E f1 S1 q
      split at h
      · cases h
      · rename_i r
        have g:∀ j,W1 E j=true→ZW op ops base f1 S1 j:=fun j A=>M88 (List.all_eq_true.1 r j (VM.1 A))
        refine M6R rem [] q hnd ?_;simp only [List.nil_append];have B:(F.map (·.1)).Nodup:=hnd.sublist ((M4M _ q).map _)
        split at h
        · split at h
          · cases h; exact .fin g
          · cases h
        · rename_i m o u
          split at h
          · rename_i I G D
            exact .mov g u D (M6S k h (B.sublist (List.filter_sublist.map _)))
          · cases h
        · cases h
    · cases h
structure M1T (ops:Array Oper) (n base:Nat) (p0:Ren) (w0:World) (done loose:List Nat) (f:GF) (S:St) (D:Array Bool) (p:Ren) (a:Act) (fr:Fr) (w:World):Prop where
  ra:RA n a fr
  cl:Tq ops D
  sz:D.size=ops.size
  sub:∀ i,D.getD i false=true→W1 done i=true
  sup:∀ i,W1 done i=true→D.getD i false=true∨W1 loose i=true
  ls:∀ i,W1 loose i=true→W1 done i=true
  slot:∀ t,(∀ i o,W1 loose i=true→D.getD i false=false→ops[i]? = some o→o.dst≠some t)→∀ g,f.get t=some g→RV p g (fr t)
  rh:RH p S w
  nm:∀ i,i<ops.size→D.getD i false=false→X9 p (base+i)
  df:DF a.defers S.df
  ch:Ch (fun b=>base≤b∧b<S.nx) p0 w0 p w
  bn:base+ops.size≤S.nx
theorem M0y {D:Array Bool}{i:Nat}(h:D.getD i true=false):i<D.size∧D.getD i false=false:=by
  rcases Nat.lt_or_ge i D.size with h' | h'
  · refine ⟨h',?_⟩;simp [h'] at h ⊢;exact h
  · simp [Array.getElem?_eq_none h'] at h
theorem M89 {D:Array Bool}{i:Nat}(h1:i<D.size)(h:D.getD i false=false):D.getD i true=false:=by
  simp [h1] at h ⊢;exact h
theorem M1T.reads {ops:Array Oper}{n base:Nat}{p0:Ren}{w0:World}{done loose:List Nat}{f:GF}{S:St}{D:Array Bool}{p:Ren}{a:Act}{fr:Fr}{w:World}(h:M1T ops n base p0 w0 done loose f S D p a fr w)
    (B:∀ j,W1 loose j=true→∀ o,ops[j]? = some o→M3g ops j o=true) {i:Nat} {o:Oper} (r:ops[i]? = some o) (A:∀ e∈o.after,Region.binds .any e=true→D.getD e.on false=true) {t:Nat} (J:t∈o.looksAt ops) :
    ∀ g,f.get t=some g→RV p g (fr t):=by
  refine h.slot t fun j O F hd I E=>?_
  have q:=B j F O I;unfold M3g at q;rw [E] at q;simp only at q;have G:i<ops.size:=(Array.getElem?_eq_some_iff.1 r).1;have:=List.all_eq_true.1 q i (List.mem_range.2 G);rw [r] at this;simp only [Bool.or_eq_true,Bool.not_eq_true',Bool.and_eq_true] at this;rcases this with e | e
  · have H:(o.looksAt ops).any (Nat.beq t)=true:=List.any_eq_true.2 ⟨t,J,by simp⟩;rw [H] at e; cases e
  · have:=Za h.cl 8 i e.2 (fun o' u=>by rw [r] at u; cases u; exact A);rw [hd] at this; cases this
theorem M5Q {ops:Array Oper}{o:Oper}{t:Nat}(h:.tmp t∈o.op.operands.toList):t∈o.looksAt ops:=by
  unfold Oper.looksAt;rw [List.mem_append];exact .inl (List.mem_filterMap.2 ⟨.tmp t,h,rfl⟩)
theorem Zz {ops:Array Oper}{o:Oper}{d:Nat}(h:d∈Ys ops.toList o):d∈o.looksAt ops:=by
  unfold Oper.looksAt;rw [List.mem_append];right;unfold Ys at h;cases g:o.guard with
  | none=>rw [g] at h; cases h
  | some q=>
    obtain ⟨j,r⟩:=q;rw [g] at h
    simpa using h
theorem M2d {ops:Array Oper}{D:Array Bool}{j:Nat}(h:Tq ops D)(g:j∈Region.ready .any ops D):Tq ops (D.setIfInBounds j true):=V.Tq.set h g
theorem count_set {D:Array Bool}{i:Nat}(h1:i<D.size)(h:D.getD i false=false):(D.setIfInBounds i true).toList.count false+1=D.toList.count false:=by
  rw [Array.toList_setIfInBounds,List.count_set (by simpa using h1)];have g:D.toList[i]'(by simpa using h1)=false:=by simpa [h1] using h
  rw [g];have:0<D.toList.count false:=List.count_pos_iff.2 (by rw [← g]; exact List.getElem_mem _);rw [if_pos (by decide),if_neg (by decide)];omega
theorem M6T {D:Array Bool}(h:D.toList.count false=0){i:Nat}(h1:i<D.size):D.getD i false=true:=by
  have:=List.count_eq_zero.1 h;have g:D.toList[i]'(by simpa using h1)∈D.toList:=List.getElem_mem _;simp only [Array.getElem_toList] at g;have:D[i]=true:=by
    cases j:D[i] with
    | true=>rfl
    | false=>rw [j] at g; exact absurd g this
  simp [h1,this]
theorem M9c {ops:Array Oper}{D:Array Bool}(B:M5C ops=true)(hs:D.size=ops.size)(u:Region.ready .any ops D=[]):∀ i,i<ops.size→D.getD i false=true:=by
  intro i
  induction i using Nat.strongRecOn with
  | _ i G=>
    intro j;cases hd:D.getD i false with
    | true=>rfl
    | false=>
      have r:ops[i]? = some ops[i]:=Array.getElem?_eq_getElem j;have q:i∈Region.ready .any ops D:=mem_ready.2 ⟨M89 (by omega) hd,ops[i],r,fun e F E=>by
        have h1:=List.all_eq_true.1 B i (List.mem_range.2 j);rw [r] at h1;have g:=List.all_eq_true.1 h1 e (by simpa using F);rw [E] at g;have A:e.on<i:=by simpa using g
        exact G e.on A (by omega)⟩
      rw [u] at q;cases q
structure M5R (ops:Array Oper) (rem:List (Nat×Oper)) (done:List Nat):Prop where
  at_:∀ x∈rem,ops[x.1]? = some x.2∧W1 done x.1=false
  nd:(rem.map (·.1)).Nodup
  all:∀ i o,ops[i]? = some o→W1 done i=true∨(i,o)∈rem
theorem M5S {D:Array Bool}{i j:Nat}(h:(D.setIfInBounds i true).getD j false=false):D.getD j false=false:=by
  by_cases e:i=j
  · subst e;rcases Nat.lt_or_ge i D.size with h' | h'
    · simp [h'] at h
    · simp [Array.getElem?_eq_none h']
  · rwa [getD_set_ne false e] at h
theorem M3o {D:Array Bool}{i:Nat}(h:i<D.size):(D.setIfInBounds i true).getD i false=true:=by simp [h]
theorem M9d {D:Array Bool}{i j:Nat}(h:(D.setIfInBounds i true).getD j false=true):j=i∨D.getD j false=true:=by
  by_cases e:i=j
  · exact .inl e.symm
  · rw [getD_set_ne false e] at h; exact .inr h
theorem M1T.loose {P:Program}{op:GO}(af:M1S P op){ops:Array Oper}{n base:Nat}{p0:Ren}{w0:World}{done loose:List Nat}{f:GF}{S:St}{D:Array Bool}{p:Ren}{a:Act}{fr:Fr}{w:World}(h:M1T ops n base p0 w0 done loose f S D p a fr w)
    (aa:∀ j,W1 loose j=true→ZW op ops base f S j) (av:∀ (i:Nat) (o:Oper),ops[i]? = some o→∀ t,o.dst=some t→t<n) {i:Nat} {o:Oper} (A:ops[i]? = some o) (hi:i∈Region.ready .any ops D) (hl:W1 loose i=true) {N:Act→World→Prop} {Q:Exit→Act→World→Prop}
    (X:∀ q a' aj w',M1T ops n base p0 w0 done loose f S (D.setIfInBounds i true) q a' aj w'→N a' w'):wpOp P ops Q i N a w:=by
  obtain ⟨aB,o',ad,ao⟩:=mem_ready.1 hi;rw [A] at ad;cases ad;obtain ⟨aH,ar⟩:=M0y aB;have ax:∀ j,W1 loose j=true→∀ o,ops[j]? = some o→M3g ops j o=true:=fun j hj o E=>by
    obtain ⟨o2,O,e2,_⟩:=aa j hj;rw [E] at O; cases O; exact e2
  have H:∀ t,t∈o.looksAt ops→∀ g,f.get t=some g→RV p g (fr t):=fun t B=>h.reads ax A ao B
  obtain ⟨o2,ae,aG,ap⟩:=aa i hl;rw [A] at ae;cases ae;have next:∀ q u a' w',a'.tmps=(a.put o.dst u).tmps→RH q S w'→Ch (fun b=>b=base+i) p w q w'→DF a'.defers S.df→(∀ d,o.dst=some d→∀ g,f.get d=some g→RV q g u)→
      M1T ops n base p0 w0 done loose f S (D.setIfInBounds i true) q a' (MI fr o.dst u) w':=by
    intro q u a' w' B az G au hv;have ag:=h.ra.put (d:=o.dst) (fun t e=>av i o A t e) u;refine ⟨⟨by rw [B]; exact ag.size,fun j=>by rw [B]; exact ag.at_ j⟩,M2d h.cl hi,by rw [Array.size_setIfInBounds]; exact h.sz,fun j hj=>?_,fun j hj=>?_,h.ls,fun t aA g r=>?_,az,fun j hj hd=>?_,au,h.ch.trans (G.mono fun b Y=>?_),h.bn⟩
    · rcases M9d hj with rfl | hj
      · exact h.ls _ hl
      · exact h.sub j hj
    · rcases h.sup j hj with e | e
      · exact .inl (getD_set_true e)
      · exact .inr e
    · rw [M3m]
      by_cases e:o.dst=some t
      · rw [if_pos e]; exact hv t e g r
      · rw [if_neg e];refine (h.slot t (fun j oj hj hd E=>?_) g r).mono G.le
        by_cases U:j=i
        · subst U; rw [A] at E; cases E; exact e
        · exact aA j oj hj (by rw [getD_set_ne false (Ne.symm U)]; exact hd) E
    · have aq:=M5S hd;have aI:j≠i:=fun e=>by
        subst e;rw [M3o (by rw [h.sz]; exact hj)] at hd; cases hd
      refine Classical.byContradiction fun hq=>?_
      rcases G.new (base+j) hq with e | e
      · exact e (h.nm j hj aq)
      · omega
    · have:=h.bn;have:=h.sz;omega
  unfold wpOp;rw [A];simp only;rcases ap with ⟨J,aw,v,S1,r,Z,I⟩ | ⟨J,I⟩
  · have F:=M1h (p:=p) h.ra J (fun d hd=>H d (Zz hd));rw [Array.toArray_toList] at F;rw [F];simp only [if_true];obtain ⟨k1,k2,k3⟩:=(af.keep r).2 aw;refine .inl (af.sound r h.ra.eval (.of fun t B=>H t (M5Q B)) h.rh (h.nm i (by have:=h.sz; omega) ar) (by have:=h.bn; have:=h.sz; omega) fun q u w' ds h1 h2 h3 h4=>?_);refine X q _ _ w' (next q u _ w' ?_ (h2.congr (fun b _=>?_) (Nat.le_of_eq k1) fun b _=>?_) (h3.mono fun b Y=>?_) ?_ fun d hd g r=>?_)
    · cases o.dst <;> rfl
    · by_cases e:b=base+i
      · subst e; exact Z.1.symm
      · exact (k3 b e).1.symm
    · by_cases e:b=base+i
      · subst e; exact Z.2.symm
      · exact (k3 b e).2.symm
    · rcases Y with e | e
      · exact e
      · omega
    · have:=h4 h.df;rw [k2] at this;cases o.dst <;> exact this
    · rw [I d hd g r]; exact h1
  · have F:=M1h (p:=p) h.ra J (fun d hd=>H d (Zz hd));rw [Array.toArray_toList] at F;rw [F];simp only [Bool.false_eq_true,if_false];refine X p _ _ w (next p undef _ w rfl h.rh (Ch.refl _ _ _) (by cases o.dst <;> exact h.df) fun d hd g r=>?_);rw [I d hd g r];exact ⟨[],rfl,trivial⟩
theorem Mac {P:Program}{op:GO}(ae:M1S P op){ops:Array Oper}{n base:Nat}{p0:Ren}{w0:World}{rem:List (Nat×Oper)}{done loose:List Nat}{f f1:GF}{S S1:St}{i:Nat}{o:Oper}(ag:M5R ops rem done)(hm:(i,o)∈rem)(H:(X8 o done&&Ma4 op ops i o f)=true)
    (r:stepG op n ops.toList base i o f S=some (f1,S1)) {D:Array Bool} {p:Ren} {a:Act} {fr:Fr} {w:World} (h:M1T ops n base p0 w0 done loose f S D p a fr w):M1T ops n base p0 w0 (i::done) (i::loose) f1 S1 D p a fr w:=by
  simp only [Bool.and_eq_true] at H;obtain ⟨h1,u⟩:=ag.at_ _ hm;simp only at h1 u;have ab:=(Array.getElem?_eq_some_iff.1 h1).1;have G:D.getD i false=false:=by
    cases hd:D.getD i false with
    | false=>rfl
    | true=>have:=h.sub i hd; rw [u] at this; cases this
  have aa:(∀ t,f1.get t=f.get t∨o.dst=some t)∧(∀ b,(S1.h.get b=S.h.get b∧S1.ow.get b=S.ow.get b)∨b=base+i)∧S1.nx=S.nx∧S1.df=S.df:=by
    unfold stepG at r;have J:∀ {g:GV},M6F n f o.dst g=some f1→∀ t,f1.get t=f.get t∨o.dst=some t:=fun hp t=>by
      rw [(Yp hp).2]
      by_cases e:o.dst=some t
      · exact .inr e
      · rw [if_neg e]; exact .inl rfl
    split at r
    · rename_i hw
      have Z:op.fl o f=true:=by
        have:=H.2;unfold Ma4 at this;rw [Bool.and_eq_true,Bool.or_eq_true] at this;rcases this.2 with e | e
        · exact e
        · rw [hw] at e; cases e
      split at r
      · rename_i g S2 A
        obtain ⟨Y,h1,u⟩:=Option.map_eq_some_iff.1 r;cases u;obtain ⟨k1,k2,k3⟩:=(ae.keep A).2 Z;exact ⟨J h1,fun b=>by by_cases e:b=base+i; exact .inr e; exact .inl (k3 b e),k1,k2⟩
      · cases r
    · obtain ⟨Y,h1,u⟩:=Option.map_eq_some_iff.1 r;cases u;exact ⟨J h1,fun b=>.inl ⟨rfl,rfl⟩,rfl,rfl⟩
    · cases r
  obtain ⟨U,F,B,X⟩:=aa;have I:=h.nm i ab G;refine ⟨h.ra,h.cl,h.sz,fun j q=>P3.2 (.inr (h.sub j q)),fun j q=>?_,fun j q=>?_,fun t O g A=>?_,h.rh.congr (fun b E=>?_) (Nat.le_of_eq B.symm) (fun b E=>?_),h.nm,by rw [X]; exact h.df,by rw [B]; exact h.ch,by rw [B]; exact h.bn⟩
  · rcases P3.1 q with e | e
    · exact .inr (P3.2 (.inl e))
    · exact (h.sup j e).imp id fun e=>P3.2 (.inr e)
  · rcases P3.1 q with e | e
    · exact P3.2 (.inl e)
    · exact P3.2 (.inr (h.ls j e))
  · rcases U t with e | e
    · rw [e] at A;exact h.slot t (fun j oj q hd ad=>O j oj (P3.2 (.inr q)) hd ad) g A
    · exact absurd e (O i o (P3.2 (.inl rfl)) G h1)
  · rcases F b with e | e
    · exact e.1
    · subst e; exact absurd I.1 E
  · rcases F b with e | e
    · exact e.2
    · subst e; exact absurd I.2 E
theorem M5T {ops:Array Oper}{rem:List (Nat×Oper)}{done:List Nat}{i:Nat}(h:M5R ops rem done):M5R ops (rem.filter fun p=>!(Nat.beq p.1 i)) (i::done):=by
  refine ⟨fun x A=>?_,?_,fun j B u=>?_⟩
  · obtain ⟨D,q⟩:=List.mem_filter.1 A;obtain ⟨E,F⟩:=h.at_ x D;refine ⟨E,?_⟩;cases r:W1 (i::done) x.1 with
    | false=>rfl
    | true=>
      rcases P3.1 r with e | e
      · rw [e] at q; simp at q
      · rw [F] at e; cases e
  · exact List.Nodup.sublist (List.Sublist.map _ List.filter_sublist) h.nd
  · rcases h.all j B u with e | e
    · exact .inl (P3.2 (.inr e))
    · by_cases g:j=i
      · exact .inl (P3.2 (.inl g))
      · exact .inr (List.mem_filter.2 ⟨e,by simp [VP g]⟩)
theorem M5U {P:Program}{op:GO}(ai:M1S P op){n base:Nat}{ops:Array Oper}(hb:M5C ops=true)(ae:∀ (i:Nat) (o:Oper),ops[i]? = some o→∀ t,o.dst=some t→t<n){p0:Ren}{w0:World}{QA:Exit→Act→World→Prop}{rem:List (Nat×Oper)}{done loose:List Nat}{f:GF}{S:St}
    (X:M5R ops rem done) (ac:∀ j,W1 loose j=true→ZW op ops base f S j)
    (af:rem=[]→∀ D p a fr w,M1T ops n base p0 w0 done loose f S D p a fr w→(∀ i,i<ops.size→D.getD i false=true)→QA .normal a w)
    (ah:∀ (i:Nat) (o:Oper),(i,o)∈rem.filter (fun p=>X8 p.2 done)→ops[i]? = some o→W1 done i=false→∀ (r:Nat) D p a fr w,M1T ops n base p0 w0 done loose f S D p a fr w→i∈Region.ready .any ops D→(∀ e∈o.after,Region.binds .any e=true→D.getD e.on false=true)→D.getD i false=false→i<D.size→
      D.toList.count false≤r+1→wpOp P ops QA i (wpAny P .any ops QA r (D.setIfInBounds i true)) a w) :
    ∀ (r:Nat) (D:Array Bool) (p:Ren) (a:Act) (fr:Fr) (w:World),M1T ops n base p0 w0 done loose f S D p a fr w→D.toList.count false≤r→wpAny P .any ops QA r D a w:=by
  have I:∀ D p a fr w,M1T ops n base p0 w0 done loose f S D p a fr w→(∀ i,i<ops.size→D.getD i false=true)→QA .normal a w:=fun D p a fr w u A=>by
    refine af ?_ D p a fr w u A;cases am:rem with
    | nil=>rfl
    | cons x l=>
      obtain ⟨h1,B⟩:=X.at_ x (by rw [am]; simp);have:=u.sub x.1 (A _ (Array.getElem?_eq_some_iff.1 h1).1);rw [B] at this; cases this
  intro r
  induction r with
  | zero=>
    intro D p a fr w g J;have A:∀ i,i<ops.size→D.getD i false=true:=fun i u=>M6T (Nat.le_zero.1 J) (by rw [g.sz]; exact u)
    refine ⟨?_,I D p a fr w g A⟩;cases ak:Region.ready .any ops D with
    | nil=>rfl
    | cons i l=>
      have hm:i∈Region.ready .any ops D:=by rw [ak]; simp
      obtain ⟨H,_⟩:=mem_ready.1 hm;obtain ⟨h1,B⟩:=M0y H;rw [A i (by rw [← g.sz]; exact h1)] at B;cases B
  | succ r ih=>
    intro D p a fr w g J;refine ⟨fun Z=>I D p a fr w g (M9c hb g.sz Z),fun i u=>?_⟩;obtain ⟨H,o,G,O⟩:=mem_ready.1 u;obtain ⟨U,F⟩:=M0y H;have ap:=count_set U F;cases E:W1 done i with
    | true=>
      rcases g.sup i E with e | e
      · rw [F] at e; cases e
      · exact g.loose ai ac ae G u e fun q a' Y w' hq=>ih _ q a' Y w' hq (by omega)
    | false=>
      rcases X.all i o G with e | e
      · rw [E] at e; cases e
      · have ad:X8 o done=true:=List.all_eq_true.2 fun x hx=>by
          cases ab:Region.binds .any x with
          | false=>rfl
          | true=>rw [g.sub x.on (O x (by simpa using hx) ab)]; rfl
        exact ah i o (List.mem_filter.2 ⟨e,ad⟩) G E r D p a fr w g u O F U (by omega)
theorem Mad {P:Program}{op:GO}(X:M1S P op){n base:Nat}{ops:Array Oper}(E:M5C ops=true)(ax:M05 n ops.toList=true){p0:Ren}{w0:World}{QA:Exit→Act→World→Prop}{f':GF}{S':St}
    (hQ:∀ q a' ab w',RA n a' ab→RF' q f' ab→RH q S' w'→Ch (fun b=>base≤b∧b<S'.nx) p0 w0 q w'→DF a'.defers S'.df→QA .normal a' w') {rem:List (Nat×Oper)} {done loose:List Nat} {f:GF} {S:St} (hr:M3n op n ops base f' S' rem done loose f S) :
    M5R ops rem done→∀ (B:Nat) (D:Array Bool) (p:Ren) (a:Act) (fr:Fr) (w:World),M1T ops n base p0 w0 done loose f S D p a fr w→D.toList.count false≤B→wpAny P .any ops QA B D a w:=by
  have ak:∀ (i:Nat) (o:Oper),ops[i]? = some o→∀ t,o.dst=some t→t<n:=fun i o H t J=>Yx ax (List.mem_of_getElem? (by rw [Array.getElem?_toList]; exact H)) J
  induction hr with
  | fin Z=>
    intro I;refine M5U X E ak I Z (fun _ D p a fr w F hD=>hQ p a fr w F.ra (fun t g hg=>F.slot t (fun j o A hd H=>?_) g hg) F.rh F.ch F.df) fun i o G=>by cases G
    rw [hD j (Array.getElem?_eq_some_iff.1 H).1] at hd;cases hd
  | flt G hc aa _ Y=>
    intro I B D p a fr w aA ag;exact Y (M5T I) B D p a fr w (Mac X I G hc aa aA) ag
  | @mov rem done loose f f1 S S1 m om Z hfe aa _ Y=>
    intro I;have Y:=Y (M5T I);refine M5U X E ak I Z (fun h0=>by rw [h0] at hfe; cases hfe) fun i o G H ah B D p a fr w r F ai aj aC ag=>?_
    rw [hfe] at G;simp only [List.mem_singleton,Prod.mk.injEq] at G;obtain ⟨rfl,rfl⟩:=G;have ay:∀ j,W1 loose j=true→∀ o,ops[j]? = some o→M3g ops j o=true:=fun j A o ac=>by
      obtain ⟨o2,e1,e2,_⟩:=Z j A;rw [ac] at e1; cases e1; exact e2
    have an:∀ t,t∈o.looksAt ops→∀ g,f.get t=some g→RV p g (fr t):=fun t J=>r.reads ay H ai J
    have aG:=r.sz;have aQ:=r.bn;have aU:=Zy X aa;have aS:=count_set aC aj;have aD:W1 loose i=false:=by
      cases E:W1 loose i with
      | false=>rfl
      | true=>rw [r.ls i E] at ah; cases ah
    have dep:∀ j,M3H ops 8 i j=true→D.getD j false=true:=fun j A=>Za r.cl 8 i A (fun o' am=>by rw [H] at am; cases am; exact ai)
    have key:=M5O (Q:=QA) (N:=wpAny P .any ops QA B (D.setIfInBounds i true)) X aa r.ra (.of fun t J=>an t (M5Q J)) (fun d hd=>an d (Zz hd)) r.rh (r.nm i (by omega) aj) (by omega) r.df
      (fun q g u a' ab w' k1 k2 k3 k4 k5 k6 k7=>by
        subst k3;refine Y B _ q a' _ w' ⟨k4,M2d r.cl F,by rw [Array.size_setIfInBounds]; exact aG,fun j A=>?_,fun j A=>?_,fun j A=>?_,fun t J g' U=>?_,k5,fun j A hd=>?_,k7,(r.ch.mono fun b E=>⟨E.1,by omega⟩).trans (k6.mono fun b E=>?_),by omega⟩ (by omega)
        · rcases M9d A with e | e
          · exact P3.2 (.inl e)
          · exact P3.2 (.inr (r.sub j e))
        · rcases P3.1 A with e | e
          · subst e; exact .inl (M3o (by omega))
          · rcases r.sup j e with e | e
            · exact .inl (getD_set_true e)
            · cases O:M3H ops 8 i j with
              | true=>exact .inl (getD_set_true (dep j O))
              | false=>exact .inr (VM.2 (List.mem_filter.2 ⟨VM.1 e,by rw [O]; rfl⟩))
        · exact P3.2 (.inr (r.ls j (VM.2 (List.mem_filter.1 (VM.1 A)).1)))
        · rw [(Yp k1).2] at U;rw [M3m]
          by_cases e:o.dst=some t
          · rw [if_pos e] at U ⊢; cases U; exact k2
          · rw [if_neg e] at U ⊢;refine (r.slot t (fun j oj A hd ac=>?_) g' U).mono k6.le;have aB:j≠i:=fun e=>by subst e; rw [aD] at A; cases A
            have O:M3H ops 8 i j=false:=by
              cases O:M3H ops 8 i j with
              | false=>rfl
              | true=>rw [dep j O] at hd; cases hd
            exact J j oj (VM.2 (List.mem_filter.2 ⟨VM.1 A,by rw [O]; rfl⟩)) (by rw [getD_set_ne false (Ne.symm aB)]; exact hd) ac
        · have aw:=M5S hd;have aX:j≠i:=fun e=>by
            subst e;rw [M3o (by omega)] at hd; cases hd
          refine Classical.byContradiction fun hq=>?_
          rcases k6.new (base+j) hq with e | e
          · exact e (r.nm j A aw)
          · omega
        · omega)
    unfold wpOp;rw [H];simp only;rw [Array.toArray_toList] at key
    split
    · rename_i hw; rw [if_pos hw] at key; exact .inl key
    · rename_i hw; rw [if_neg hw] at key; exact key
theorem Mae {P:Program}{op:GO}(q:M1S P op){n base:Nat}{ops:Array Oper}{f':GF}{S':St}{rem:List (Nat×Oper)}{done loose:List Nat}{f:GF}{S:St}(h:M3n op n ops base f' S' rem done loose f S):S.nx≤S'.nx:=by
  induction h with
  | fin=>exact Nat.le_refl _
  | flt _ _ g _ j=>exact Nat.le_trans (Zy q g) j
  | mov _ _ g _ j=>exact Nat.le_trans (Zy q g) j
theorem YX:∀ (l:List Oper) (k:Nat) (x:Nat×Oper),x∈T8 l k→k≤x.1∧l[x.1-k]? = some x.2
  | [],k,x,h=>by cases h
  | o::l,k,x,h=>by
    unfold T8 at h;rcases List.mem_cons.1 h with rfl | h
    · simp
    · obtain ⟨h1,g⟩:=YX l (k+1) x h;refine ⟨by omega,?_⟩;rw [show x.1-k=(x.1-(k+1))+1 by omega,List.getElem?_cons_succ];exact g
theorem M1i:∀ (l:List Oper) (k i:Nat) (o:Oper),l[i]? = some o→(k+i,o)∈T8 l k
  | [],k,i,o,h=>by cases h
  | a::l,k,0,o,h=>by cases h; simp [T8]
  | a::l,k,i+1,o,h=>by
    unfold T8;have:=M1i l (k+1) i o (by simpa using h);rw [show k+(i+1)=k+1+i by omega];exact List.mem_cons_of_mem _ this
theorem XH:∀ (l:List Oper) (k:Nat),((T8 l k).map (·.1)).Nodup
  | [],k=>by simp [T8]
  | a::l,k=>by
    unfold T8;rw [List.map_cons,List.nodup_cons];refine ⟨fun h=>?_,XH l (k+1)⟩;obtain ⟨x,g,e⟩:=List.mem_map.1 h;have:=(YX l (k+1) x g).1;simp only at e;omega
theorem M3p {body:GF→St→Option (GX×GF×St)}(g:∀ f S e f' S',body f S=some (e,f',S')→S.nx≤S'.nx):∀ (L:Nat) {f f':GF} {S S':St} {e:GX},M41 body L f S=some (e,f',S')→S.nx≤S'.nx
  | 0,f,f',S,S',e,h=>by cases h
  | L+1,f,f',S,S',e,h=>by
    unfold M41 at h
    split at h
    · rename_i j
      exact Nat.le_trans (g _ _ _ _ _ j) (M3p g L h)
    · exact g _ _ _ _ _ h
theorem Z4 {P:Program}{op:GO}(g:M1S P op){L n:Nat}:∀ (c:Code) {f f':GF} {S S':St} {e:GX},gC op L n c f S=some (e,f',S')→S.nx≤S'.nx
  | .skip,f,f',S,S',e,h=>by unfold gC at h; cases h; exact Nat.le_refl _
  | .label _,f,f',S,S',e,h=>by unfold gC at h; cases h; exact Nat.le_refl _
  | .ret,f,f',S,S',e,h=>by unfold gC at h; cases h; exact Nat.le_refl _
  | .exit _,f,f',S,S',e,h=>by unfold gC at h; cases h; exact Nat.le_refl _
  | .seq a b,f,f',S,S',e,h=>by
    unfold gC at h
    split at h
    · rename_i h1
      exact Nat.le_trans (Z4 g a h1) (Z4 g b h)
    · exact Z4 g a h
  | .cond c x y,f,f',S,S',e,h=>by
    unfold gC at h
    split at h
    · exact Z4 g x h
    · exact Z4 g y h
    · cases h
  | .block id c,f,f',S,S',e,h=>by
    unfold gC at h
    split at h
    · rename_i h1
      have:=Z4 g c h1
      split at h
      · cases h; exact this
      · cases h; exact this
    · exact Z4 g c h
  | .loop c,f,f',S,S',e,h=>by
    unfold gC at h;exact M3p (fun f S e f' S' h=>Z4 g c h) L h
  | .region _ ops false,f,f',S,S',e,h=>by
    unfold gC at h
    split at h
    · rename_i h1
      cases h;exact Nat.le_trans (Nat.le_add_right _ _) (M4L g _ _ h1)
    · cases h
  | .region _ ops true,f,f',S,S',e,h=>by
    unfold gC at h
    split at h
    · split at h
      · rename_i h1
        cases h;exact Nat.le_trans (Nat.le_add_right _ _) (Mae g (M6S _ h1 (XH _ _)))
      · cases h
    · cases h
  | .rangeFunc ..,f,f',S,S',e,h=>by unfold gC at h; cases h
  | .scope ..,f,f',S,S',e,h=>by unfold gC at h; cases h
  | .goto ..,f,f',S,S',e,h=>by unfold gC at h; cases h
  | .refuse ..,f,f',S,S',e,h=>by unfold gC at h; cases h
def M6U:GX→Exit
  | .nrm=>.normal
  | .exit id=>.exit id
  | .ret=>.ret
def M7x (n:Nat) (f':GF) (S S':St) (p:Ren) (w:World) (Q:Act→World→Prop):Prop:=
  ∀ q a' g w',RA n a' g→RF' q f' g→RH q S' w'→Ch (fun b=>S.nx≤b∧b<S'.nx) p w q w'→DF a'.defers S'.df→Q a' w'
theorem M8a {P:Program}(hmx:P.follows .mixedOrders=true){op:GO}(X:M1S P op){n id:Nat}{ops:Array Oper}{f f':GF}{S S':St}(H:M5C ops=true)(I:M05 n ops.toList=true)
    (h:M3n op n ops S.nx f' S' (T8 ops.toList 0) [] [] f ⟨S.h,S.nx+ops.size,S.df,S.ow,S.lg⟩) {p:Ren} {a:Act} {fr:Fr} {w:World} (Y:RA n a fr) (J:RF' p f fr) (u:RH p S w) (hd:DF a.defers S.df) {QA:Exit→Act→World→Prop}
    (G:M7x n f' S S' p w (QA .normal)):(Code.region id ops true).wp P QA a w:=by
  refine wp_region_any hmx ?_;have B:∀ i,(Array.replicate ops.size false).getD i false=false:=fun i=>by
    rcases Nat.lt_or_ge i ops.size with h' | h'
    · simp [h']
    · simp [Array.getElem?_eq_none,h']
  refine Mad X H I (p0:=p) (w0:=w.drew) (fun q a' A w' h1 r D E F=>G q a' A w' h1 r D ((Ch.drew _ _ _).trans E) F) h ⟨fun x Z=>?_,XH _ _,fun i o U=>?_⟩ ops.size _ p a fr w.drew
    ⟨Y,Tq.start _,by simp,fun i j=>?_,fun i j=>?_,fun i j=>?_,fun t _ g O=>J t g O,(u.drew.congr (fun _ _=>rfl) (Nat.le_add_right _ _) fun _ _=>rfl),fun i j _=>u.fr _ (Nat.le_add_right _ _),hd,Ch.refl _ _ _,Nat.le_refl _⟩ ?_
  · obtain ⟨_,r⟩:=YX _ _ x Z;exact ⟨by simpa using r,rfl⟩
  · right;have:=M1i ops.toList 0 i o (by rw [Array.getElem?_toList]; exact U)
    simpa using this
  · rw [B] at j; cases j
  · cases j
  · cases j
  · simp
theorem M7y {P:Program}{c:Code}{n:Nat}{body:GF→St→Option (GX×GF×St)}(D:∀ {f f':GF} {S S':St} {e:GX},body f S=some (e,f',S')→∀ {p:Ren} {a:Act} {fr:Fr} {w:World} {QA:Exit→Act→World→Prop},RA n a fr→RF' p f fr→RH p S w→DF a.defers S.df→M7x n f' S S' p w (QA (M6U e))→c.wp P QA a w)
    (E:∀ f S e f' S',body f S=some (e,f',S')→S.nx≤S'.nx):∀ (L:Nat) {f f':GF} {S S':St} {e:GX},M41 body L f S=some (e,f',S')→∀ {p:Ren} {a:Act} {fr:Fr} {w:World} {QA:Exit→Act→World→Prop},RA n a fr→RF' p f fr→RH p S w→DF a.defers S.df→
      M7x n f' S S' p w (QA (M6U e))→Code.rounds P c QA L a w
  | 0,f,f',S,S',e,h,_,_,_,_,_,_,_,_,_,_=>by cases h
  | L+1,f,f',S,S',e,h,p,a,fr,w,QA,hr,hf,hh,hd,hQ=>by
    unfold M41 at h;rw [rounds_succ]
    split at h
    · rename_i f1 S1 g
      have ab:=E _ _ _ _ _ g;have ac:=M3p E L h;refine D g hr hf hh hd fun q a' F w' h1 j u A B=>?_
      exact M7y D E L h h1 j u B fun Z G H w2 J O U X Y=>
        hQ Z G H w2 J O U ((A.mono fun b g=>⟨g.1,by omega⟩).trans (X.mono fun b g=>⟨by omega,g.2⟩)) Y
    · rename_i r I
      refine D h hr hf hh hd fun q a' F w' h1 j u A B=>?_
      have:=hQ q a' F w' h1 j u A B;cases e with
      | nrm=>exact absurd h (I _ _)
      | exit id=>exact this
      | ret=>exact this
theorem M0b {P:Program}(hmx:P.follows .mixedOrders=true){op:GO}(E:M1S P op){L n:Nat}:∀ (c:Code) {f f':GF} {S S':St} {e:GX},gC op L n c f S=some (e,f',S')→
    ∀ {p:Ren} {a:Act} {fr:Fr} {w:World} {QA:Exit→Act→World→Prop},RA n a fr→RF' p f fr→RH p S w→DF a.defers S.df→M7x n f' S S' p w (QA (M6U e))→c.wp P QA a w
  | .skip,f,f',S,S',e,h,p,a,fr,w,QA,A,u,B,hd,D=>by
    unfold gC at h; cases h;exact wp_skip (D p a fr w A u B (Ch.refl _ _ _) hd)
  | .label _,f,f',S,S',e,h,p,a,fr,w,QA,A,u,B,hd,D=>by
    unfold gC at h; cases h;exact wp_label (D p a fr w A u B (Ch.refl _ _ _) hd)
  | .ret,f,f',S,S',e,h,p,a,fr,w,QA,A,u,B,hd,D=>by
    unfold gC at h; cases h;exact wp_ret (D p a fr w A u B (Ch.refl _ _ _) hd)
  | .exit id,f,f',S,S',e,h,p,a,fr,w,QA,A,u,B,hd,D=>by
    unfold gC at h; cases h;exact wp_exit (D p a fr w A u B (Ch.refl _ _ _) hd)
  | .seq x y,f,f',S,S',e,h,p,a,fr,w,QA,A,u,B,hd,D=>by
    unfold gC at h
    split at h
    · rename_i f1 S1 h1
      have an:=Z4 E x h1;have ao:=Z4 E y h;refine wp_seq (M0b hmx E x h1 A u B hd fun q a' O w' F G H I J=>?_);exact M0b hmx E y h F G H J fun q2 a2 ae w2 j1 j2 j3 j4 j5=>
        D q2 a2 ae w2 j1 j2 j3 ((I.mono fun b U=>⟨U.1,by omega⟩).trans (j4.mono fun b U=>⟨by omega,U.2⟩)) j5
    · rename_i r ab
      refine wp_seq (M0b hmx E x h A u B hd fun q a' O w' F G H I J=>?_);have:=D q a' O w' F G H I J;cases e with
      | nrm=>exact absurd h (ab _ _)
      | exit id=>exact this
      | ret=>exact this
  | .cond c x y,f,f',S,S',e,h,p,a,fr,w,QA,A,u,B,hd,D=>by
    unfold gC at h
    split at h
    · rename_i Y
      have Z:ev fr c=.bool true:=M6N Y fun t _ g hg=>u t g hg
      exact wp_cond_true (by rw [A.eval]; exact Z) (M0b hmx E x h A u B hd D)
    · rename_i Y
      have Z:ev fr c=.bool false:=M6N Y fun t _ g hg=>u t g hg
      exact wp_cond_false (by rw [A.eval]; exact Z) (M0b hmx E y h A u B hd D)
    · cases h
  | .block id c,f,f',S,S',e,h,p,a,fr,w,QA,A,u,B,hd,D=>by
    unfold gC at h
    split at h
    · rename_i ac f1 S1 h1
      split at h
      · rename_i X
        have X:=Nat.eq_of_beq_eq_true X;cases h;refine wp_block (M0b hmx E c h1 A u B hd fun q a' O w' F G H I J=>?_);show Exit.inBlock id QA (.exit ac) a' w'
        unfold Exit.inBlock;simp only;rw [if_pos X];exact D q a' O w' F G H I J
      · rename_i X
        cases h;refine wp_block (M0b hmx E c h1 A u B hd fun q a' O w' F G H I J=>?_);show Exit.inBlock id QA (.exit ac) a' w'
        unfold Exit.inBlock;simp only;rw [if_neg (fun e=>by subst e; simp at X)];exact D q a' O w' F G H I J
    · rename_i r ab
      refine wp_block (M0b hmx E c h A u B hd fun q a' O w' F G H I J=>?_);have:=D q a' O w' F G H I J;cases e with
      | nrm=>exact this
      | exit id=>exact absurd h (ab _ _ _)
      | ret=>exact this
  | .loop c,f,f',S,S',e,h,p,a,fr,w,QA,A,u,B,hd,D=>by
    unfold gC at h;exact wp_loop_rounds L (M7y (fun {f f' S S' e} h {p a fr w QA} A u B hd D=>M0b hmx E c h A u B hd D) (fun f S e f' S' h=>Z4 E c h) L h A u B hd D)
  | .region _ ops false,f,f',S,S',e,h,p,a,fr,w,QA,A,u,B,hd,D=>by
    unfold gC at h
    split at h
    · rename_i f1 S1 h1
      cases h;refine wp_region_list ?_;have:=M7v E (QA:=QA) ops.toList 0 h1 A u (B.congr (fun _ _=>rfl) (Nat.le_add_right _ _) fun _ _=>rfl) (fun j _ _=>B.fr _ (Nat.le_add_right _ _)) (by simp) hd (fun q a' O w' F G H I J=>D q a' O w' F G H I J)
      rwa [Array.toArray_toList] at this
    · cases h
  | .region _ ops true,f,f',S,S',e,h,p,a,fr,w,QA,A,u,B,hd,D=>by
    unfold gC at h
    split at h
    · rename_i U
      simp only [Bool.and_eq_true] at U
      split at h
      · rename_i f1 S1 h1
        cases h;exact M8a hmx E U.1 U.2 (M6S _ h1 (XH _ _)) A u B hd D
      · cases h
    · cases h
  | .rangeFunc ..,f,f',S,S',e,h,p,a,fr,w,QA,A,u,B,hd,D=>by unfold gC at h; cases h
  | .scope ..,f,f',S,S',e,h,p,a,fr,w,QA,A,u,B,hd,D=>by unfold gC at h; cases h
  | .goto ..,f,f',S,S',e,h,p,a,fr,w,QA,A,u,B,hd,D=>by unfold gC at h; cases h
  | .refuse ..,f,f',S,S',e,h,p,a,fr,w,QA,A,u,B,hd,D=>by unfold gC at h; cases h
theorem M48:∀ (l:List GV) (i:Nat) (f:GF) (t:Nat),i+l.length≤100000→(M42 l i f).get t=if i≤t∧t<i+l.length then l[t-i]? else f.get t
  | [],i,f,t,_=>by
    unfold M42;rw [if_neg (by simp only [List.length_nil]; omega)]
  | v::l,i,f,t,h=>by
    simp only [List.length_cons] at h;unfold M42;rw [M48 l (i+1) _ t (by omega),Tr.get_set _ _ _ _ _ (by unfold M3Y; omega)];simp only [List.length_cons]
    by_cases h1:t=i
    · subst h1;rw [if_neg (by omega),if_pos rfl,if_pos (by omega)];simp
    · by_cases g:i+1≤t∧t<i+1+l.length
      · rw [if_pos g,if_pos (by omega),show t-i=(t-(i+1))+1 by omega,List.getElem?_cons_succ]
      · rw [if_neg g,if_neg h1,if_neg (by omega)]
theorem M9e {p:Ren}{l:List GV}{vs:List Value}(h:Ry p l vs)(r:l.length≤1000):RF' p (M42 l 0 .lf) (Zb vs):=fun t g j=>by
  rw [M48 l 0 _ t (by omega)] at j
  split at j
  · obtain ⟨v,h1,q⟩:=h.get j;simp only [Nat.sub_zero] at h1;rw [M0i,h1];exact q
  · cases j
theorem Maf {n:Nat}{vs:List Value}(h:vs.length≤n):RA n ⟨vs.toArray++Array.replicate (n-vs.toArray.size) undef,[]⟩ (Zb vs):=by
  refine ⟨by simp; omega,fun i=>?_⟩;rw [M0i]
  by_cases g:i<vs.length
  · simp [Array.getElem?_append,g]
  · simp only [Array.getD_eq_getD_getElem?,Array.getElem?_append,List.size_toArray,g,if_false,Array.getElem?_replicate];rw [List.getElem?_eq_none (by omega)]
    split <;> rfl
theorem M4N {P:Program}{p:Ren}{f:GF}{fr:Fr}{S:St}{w:World}(j:RF' p f fr)(A:RH p S w):∀ {rs:List ResultVar} {g:List GV},M6I P f S rs=some g→∃ vs,M1u P fr w rs vs∧Ry p g vs
  | [],g,h=>by cases h; exact ⟨[],trivial,trivial⟩
  | .tmp t::rs,g,h=>by
    unfold M6I at h
    split at h
    · rename_i v hv
      split at h
      · rename_i r B
        cases h;obtain ⟨vs,h1,q⟩:=M4N j A B;exact ⟨fr t::vs,⟨rfl,h1⟩,j t v hv,q⟩
      · cases h
    · cases h
  | .cell c t::rs,g,h=>by
    unfold M6I at h
    split at h
    · rename_i b off hv
      split at h
      · rename_i v H
        split at h
        · rename_i r B
          cases h;obtain ⟨vs,h1,q⟩:=M4N j A B;obtain ⟨I,base,n,D,E⟩:=j c _ hv;obtain ⟨u,F,G⟩:=M5F (P:=P) A H D;exact ⟨u::vs,⟨⟨_,E,F⟩,h1⟩,G,q⟩
        · cases h
      · cases h
    · cases h
theorem M9f {p:Ren}{j:List GV}{vs:List Value}(h:Ry p j vs):RV p (M7q j) (M7b vs):=by
  match j,vs,h with
  | [],[],h=>exact ⟨[],rfl,trivial⟩
  | [g],[v],h=>exact h.1
  | g::g2::j,v::v2::vs,h=>exact ⟨v::v2::vs,rfl,h⟩
theorem M6V {P:Program}{p:Ren}{fn:Func}{f:GF}{fr:Fr}{S:St}{w:World}{n:Nat}{a:Act}(j:RA n a fr)(A:RF' p f fr)(B:RH p S w){g:List GV}(h:M6I P f S fn.results.toList=some g) :
    ∃ v,(results fn a.tmps).run P w=.ok v w∧RV p (M7q g) v:=by
  obtain ⟨vs,h1,q⟩:=M4N A B h;obtain ⟨v,r,u⟩:=M55 (P:=P) (fn:=fn) (rs:=fn.results.toList) (by simp) (a:=⟨a.tmps,[]⟩) ⟨rfl,j.size,j.at_⟩ (R:=fun v _=>v=M7b vs) ⟨vs,h1,rfl⟩;subst u;exact ⟨_,r,M9f q⟩
theorem Mbk {P:Program}(d:Nat){ty:Nat}{ms:Array (String×TypeId)}(g:P.underlying ty=some (.interface ms))(w:World):(Op.equalIn (d+1) ty .nilIface .nilIface).run P w=.ok true w:=by
  simp [Op.equalIn,run_underlying g]
theorem M9g {P:Program}{g:FuncId}(h:M5D P g=true)(args:Array Value)(w:World){R:Ending→FrameMode→World→Prop}(Y:R (.returned (.tuple #[])) .returning w):CallsD P g args .returning w R:=by
  unfold M5D at h
  split at h
  · rename_i fn af
    split at h
    · rename_i id o q t X D aa
      split at h
      · rename_i ats ty d yt d' t' ag ah ho hq B G
        simp only [Bool.and_eq_true] at h;obtain ⟨⟨⟨⟨h1,r⟩,u⟩,A⟩,j⟩:=h;have h1:=Nat.eq_of_beq_eq_true h1;have r:=Nat.eq_of_beq_eq_true r;subst h1 r;have u:d<fn.ntmps:=Nat.le_of_ble_eq_true u;have A:t<fn.ntmps:=Nat.le_of_ble_eq_true A;refine callsD_of_wpS af aa fun I cs H=>?_
        generalize Z:(args++Array.replicate (fn.ntmps-args.size) undef)=T;have F:fn.ntmps≤T.size:=by rw [← Z]; simp; omega
        have O:d<T.size:=Nat.lt_of_lt_of_le u F;have U:t<T.size:=Nat.lt_of_lt_of_le A F;have ap:recoverD (I::cs)=none:=by simp [recoverD,H]
        have ao:(execOp (({ tmps:=T,defers:=[] }:Act).put o.dst .nilIface).eval q).run P w=.ok (.value (.bool false)) w:=by
          have ad:(({ tmps:=T,defers:=[] }:Act).put o.dst .nilIface).eval (.tmp d)=.nilIface:=by
            rw [B]; simp [Act.eval,Act.put,O]
          have ae:(({ tmps:=T,defers:=[] }:Act).put o.dst .nilIface).eval (.const .nilIface)=.nilIface:=rfl;unfold execOp;rw [hq];simp only [ad,ae];refine MG _ _ w w ?_;show (do eqGuard .neq ty (.tmp d) (.const .nilIface) .nilIface .nilIface; binOp .neq ty .nilIface .nilIface:Sem Value).run P w=_
          have ac:(Op.equal ty .nilIface .nilIface).run P w=.ok true w:=by
            unfold Op.equal Op.maxDepth;cases E:P.underlying ty with
            | none=>rw [E] at j; cases j
            | some J=>
              rw [E] at j;cases J <;> first | (cases j; done) | skip
              exact Mbk 9999 E w
          have ai:(eqGuard .neq ty (.tmp d) (.const .nilIface) .nilIface .nilIface).run P w=.ok () w:=rfl;rw [run_bind,ai];simp only [binOp];rw [run_bind,ac];rfl
        refine wpS_seq (wpS_region ?_);show wpOpsS P ⟨[o,q]⟩ _ [0,1] _ _ _
        have aq:∀ tm,Region.wanted o (yielded ⟨[o,q]⟩ tm)=true:=fun tm=>by simp [Region.wanted,ag]
        have ar:∀ tm,Region.wanted q (yielded ⟨[o,q]⟩ tm)=true:=fun tm=>by simp [Region.wanted,ah]
        have am:∀ a:Act,(execOp a.eval o).run P w=.ok .recover w:=fun a=>by
          unfold execOp;rw [ho];rfl
        unfold wpOpsS;simp only [List.getElem?_toArray,List.getElem?_cons_zero,aq,if_true,am,ap];unfold wpOpsS;simp only [List.getElem?_toArray,List.getElem?_cons_succ,List.getElem?_cons_zero,ar,if_true,ao];unfold Oper.upon wpOpsS Exit.thenS;simp only;have ab:((({ tmps:=T,defers:=[] }:Act).put o.dst .nilIface).put q.dst (.bool false)).eval (.tmp t)=.bool false:=by
          rw [B,G];simp [Act.eval,Act.put,U]
        refine wpS_cond (t:=false) ab ?_;simp only [Bool.false_eq_true,if_false];refine wpS_of_wp (wp_skip ?_);refine ⟨by rw [B,G]; rfl,.returning,?_,.tuple #[],?_,Y⟩
        · rw [← H]
        · exact results_none (by cases hh:fn.results with | mk l=>rw [hh] at D; simp only at D; rw [D]) _ _ _
      · cases h
    · cases h
  · cases h
theorem M49 {P : Program} {fn : Func} {tmps : Array Value} {R : Ending → World → Prop} {w : World} (hname : ∀ (g : Nat) (fn : Func), P.funcs[g]? = some fn → (fn.name == "runtime.NumGoroutine") = false) (hres : ∃ v, (results fn tmps).run P w = .ok v w ∧ R (.returned v) w) :
    ∀ (ds:List Deferred) (gs:List FuncId),DF ds gs→gs.all (M5D P)=true→Leaves P fn tmps R ds .returning w
  | [],[],_,_=>hres
  | d::ds,g::gs,⟨⟨a,c,hd⟩,h⟩,hall=>by
    subst hd;simp only [List.all_cons,Bool.and_eq_true] at hall;have ih:=M49 hname hres ds gs h hall.2;have hfn:∃ fn,P.funcs[g]? = some fn∧fn.body.isNone=false:=by
      have:=hall.1;unfold M5D at this
      split at this
      · rename_i fn hf
        refine ⟨fn,hf,?_⟩
        split at this
        · rename_i hb; rw [hb]; rfl
        · cases this
      · cases this
    obtain ⟨fn',hf,hb⟩:=hfn;exact leaves_cons (by simp) (Yw _ _ hf (hname g fn' hf) hb) (M9g hall.1 _ w ih)
  | [],_::_,h,_=>h.elim
  | _::_,[],h,_=>h.elim
theorem M7z {P : Program} (hmx : P.follows .mixedOrders = true) (hname : ∀ (g : Nat) (fn : Func), P.funcs[g]? = some fn → (fn.name == "runtime.NumGoroutine") = false) (L : Nat) : ∀ k, M4K P (Ma6 P L k)
  | 0,g,args,S,v,S',h=>by cases h
  | k+1,g,args,S,v,S',h=>by
    have ih:=M7z hmx hname L k;unfold Ma6 at h
    split at h
    · cases h
    · rename_i fn hfn
      split at h
      · cases h
      · rename_i c hc
        split at h
        · cases h
        · rename_i hle
          simp only [Bool.and_eq_true] at hle;have hle1:=Nat.le_of_ble_eq_true hle.1;have hle2:=Nat.le_of_ble_eq_true hle.2
          split at h
          · cases h
          · rename_i e f S1 hne hg
            have hnx:=Z4 (M9b ih) c hg
            split at h
            · rename_i hrec
              split at h
              · rename_i vs hres
                cases h;refine ⟨rfl,hnx,fun p w vargs hargs hh=>⟨?_,fn,hfn,hname g fn hfn,by rw [hc]; rfl⟩⟩;refine calls_of_wp_defers hfn hc ?_;have hal:=hargs.length;have hra:=Maf (n:=fn.ntmps) (vs:=vargs) (by omega);refine M0b hmx (M9b ih) c hg hra (M9e hargs hle2) (hh.congr (fun _ _=>rfl) (Nat.le_refl _) fun _ _=>rfl) trivial fun q a' fr' w' k1 k2 k3 k4 k5=>?_
                obtain ⟨u,u1,u2⟩:=M6V k1 k2 k3 hres;have hlv:=M49 (fn:=fn) (tmps:=a'.tmps) (R:=fun e w'=>∃ v,e=.returned v∧∃ q,RV q (M7q vs) v∧RH q ⟨S1.h,S1.nx,S.df,S1.ow,S1.lg⟩ w'∧Ch (fun b=>S.nx≤b∧b<S1.nx) p w q w') hname ⟨u,u1,u,rfl,q,u2,k3.congr (fun _ _=>rfl) (Nat.le_refl _) fun _ _=>rfl,k4⟩ a'.defers S1.df k5 hrec;cases e with
                | nrm=>exact hlv
                | exit id=>exact (hne id rfl).elim
                | ret=>exact hlv
              · cases h
            · cases h
          · cases h
theorem Mbl {P:Program}(hmx:P.follows .mixedOrders=true)(hn:MbI P=true){L k g:Nat}(h:yes P L k g=true)(w:World):Md P g [] w fun v w'=>v=.bool true∧Ev [] w w':=by
  have hname : ∀ (g : Nat) (fn : Func), P.funcs[g]? = some fn → (fn.name == "runtime.NumGoroutine") = false := fun g fn hg => by
    have:=List.all_eq_true.1 hn fn (List.mem_of_getElem? (by rw [Array.getElem?_toList]; exact hg))
    simpa using this
  unfold yes at h
  split at h
  · rename_i b S' hr
    subst h;obtain ⟨_,_,hc⟩:=M7z hmx hname L k _ _ _ _ _ hr;refine (hc ⟨fun _=>none,fun _=>none,w,[]⟩ w [] trivial ⟨fun b r base n g hb=>(by cases hb),fun b b' x x' hb=>(by cases hb),fun b x hb=>(by cases hb),fun b hb=>⟨rfl,rfl⟩,⟨Ev.refl _ _,fun b x hb=>(by cases hb),fun b o a n c _ _ hb=>(by cases hb),fun b o a n c _ _ hb=>(by cases hb),fun b b' o o' y y' _ _ _ _ hb=>(by cases hb),fun b o y b' x _ _ hb=>(by cases hb)⟩⟩).mono fun v w' ⟨q,h1,h2,h3⟩=>⟨h1,h3.os,h3.tape,h3.output,h3.size,fun i hi _=>h3.out i hi fun hb=>?_⟩
    rcases hb with ⟨b,x,hb,_⟩ | ⟨b,y,hb,_⟩ <;> cases hb
  · cases h
end Go.E
