
/- A run of code by values alone, which Lean's kernel can compute: what it gives, the model gives in every world. No condition. -/
import Derived.Test.YtlgdhajakblkaaaGreatDoorH
set_option linter.unusedVariables false
set_option linter.unusedSimpArgs false
namespace Go.E
open Go Go.V
inductive GC where
  | kn (c : Nat)
  | op (es : Nat)
inductive Ty where
  | int (k : IntKind)
  | bool
  | str
  | sl (t : Ty)
  | unit
  | pair (a b : Ty)
@[reducible] def Ty.den : Ty → Type
  | .int _ => Int
  | .bool => Bool
  | .str => List UInt8
  | .sl t => List t.den
  | .unit => Unit
  | .pair a b => a.den × b.den
def Ty.sz : Ty → Nat
  | .unit => 0
  | .pair a b => a.sz + b.sz
  | _ => 1
inductive GV where
  | bool (b : Bool)
  | int (k : IntKind) (n : Int)
  | str (s : List UInt8)
  | nilp
  | ptr (b off : Nat)
  | nils
  | sl (b off len : Nat) (c : GC)
  | sle
  | nilm
  | map (b : Nat)
  | nilf
  | func (f : FuncId) (a c : List GV)
  | agg (l : List GV)
  | tup (l : List GV)
  | ro (t : Ty) (xs : List t.den)
  | rop (l : List GV) (off : Nat)
  | own (b : Nat)
  | elp (b : Nat) (t : Ty) (i off : Nat) (x : t.den)
def GV.ats : GV → List GV
  | .agg l => l
  | v => [v]
inductive GB where
  | cells (l : List GV)
  | map (es : List (GV × GV))
inductive Tr (α : Type) where
  | lf
  | nd (o : Option α) (l r : Tr α)
def Tr.get {α : Type} : Tr α → Nat → Option α
  | .lf, _ => none
  | .nd o l r, k => match Nat.beq k 0 with
    | true => o
    | false => match Nat.beq (k % 2) 1 with
      | true => l.get (k / 2)
      | false => r.get (k / 2 - 1)
def Tr.set {α : Type} : Nat → Tr α → Nat → Option α → Tr α
  | 0, t, _, _ => t
  | n + 1, .lf, k, v => match Nat.beq k 0 with
    | true => .nd v .lf .lf
    | false => match Nat.beq (k % 2) 1 with
      | true => .nd none (Tr.set n .lf (k / 2) v) .lf
      | false => .nd none .lf (Tr.set n .lf (k / 2 - 1) v)
  | n + 1, .nd o l r, k, v => match Nat.beq k 0 with
    | true => .nd v l r
    | false => match Nat.beq (k % 2) 1 with
      | true => .nd o (Tr.set n l (k / 2) v) r
      | false => .nd o l (Tr.set n r (k / 2 - 1) v)
abbrev GF := Tr GV
structure OwB where
  t : Ty
  T : TypeId
  xs : List t.den
  mu : Bool
structure St where
  h : Tr GB
  nx : Nat
  df : List FuncId
  ow : Tr OwB
  lg : List Nat
def ofAt : Value → Option GV
  | .bool b => some (.bool b)
  | .int k n => some (.int k n)
  | .string s => some (.str s.data.toList)
  | .pointer none => some .nilp
  | .slice none 0 0 => some .nils
  | .map none => some .nilm
  | .nilFunc => some .nilf
  | .func (.func f) ⟨[]⟩ ⟨[]⟩ => some (.func f [] [])
  | _ => none
def ofAts : List Value → Option (List GV)
  | [] => some []
  | v :: l => match ofAt v with
    | some g => match ofAts l with
      | some r => some (g :: r)
      | none => none
    | none => none
def ofVal : Value → Option GV
  | .agg cs => (ofAts cs.toList).map .agg
  | .tuple cs => (ofAts cs.toList).map .tup
  | v => ofAt v
def gev (f : GF) : Operand → Option GV
  | .tmp t => f.get t
  | .const v => ofVal v
  | .func g => some (.func g [] [])
  | .global _ => none
def gevs (f : GF) : List Operand → Option (List GV)
  | [] => some []
  | x :: l => match gev f x with
    | some g => match gevs f l with
      | some r => some (g :: r)
      | none => none
    | none => none
def gevp (f : GF) : List (Nat × Operand) → Option (List (Nat × GV))
  | [] => some []
  | (i, x) :: l => match gev f x with
    | some g => match gevp f l with
      | some r => some ((i, g) :: r)
      | none => none
    | none => none
def szOf (P : Program) (t : TypeId) : Option Nat := (P.info? t).map (·.size)
def aggB (P : Program) (t : TypeId) : Option Bool := match P.underlying t with
  | some (.struct _) => some true
  | some (.array ..) => some true
  | some _ => some false
  | none => none
def elB (P : Program) (t : TypeId) : Option (TypeId × Nat) := match P.underlying t with
  | some (.slice e) => match P.info? e with
    | some i => match Nat.ble i.bytes 4096 with
      | true => some (e, i.size)
      | false => none
    | none => none
  | _ => none
def zeroB (P : Program) (t : TypeId) : Option (List GV) := match P.info? t with
  | some i => match i.zero with
    | some z => ofAts z.cells.toList
    | none => none
  | none => none
def cut (l : List GV) (off n : Nat) : Option (List GV) := let r := (l.drop off).take n; if r.length = n then some r else none
def cellsAt (S : St) (b off n : Nat) : Option (List GV) := match S.h.get b with
  | some (.cells l) => cut l off n
  | _ => none
def part (P : Program) (t : TypeId) (l : List GV) (off : Nat) : Option GV := match aggB P t with
  | some true => match szOf P t with
    | some n => (cut l off n).map .agg
    | none => none
  | some false => l[off]?
  | none => none
def loadG (P : Program) (t : TypeId) (S : St) (b off : Nat) : Option GV := match S.h.get b with
  | some (.cells l) => part P t l off
  | _ => none
def lim : Nat := 4194303
def fuelT : Nat := 22
def St.put (S : St) (b : Nat) (g : Option GB) : Option St := match Nat.blt b lim with
  | true => some ⟨S.h.set fuelT b g, S.nx, S.df, S.ow, S.lg⟩
  | false => none
def isCellG : GV → Bool
  | .agg _ => false
  | .tup _ => false
  | _ => true
def over (l : List GV) (off : Nat) (vs : List GV) : Option (List GV) :=
  if off + vs.length ≤ l.length ∧ vs.all isCellG = true then some (l.take off ++ (vs ++ l.drop (off + vs.length))) else none
def storeC (S : St) (b off : Nat) (vs : List GV) : Option St := match S.h.get b with
  | some (.cells l) => match over l off vs with
    | some l' => S.put b (some (.cells l'))
    | none => none
  | _ => none
def newB (S : St) (name : Nat) (vs : List GV) : Option St := if vs.all isCellG = true then S.put name (some (.cells vs)) else none
def fillG (place : Nat → Option (Nat × Nat)) : List GV → List (Nat × GV) → Option (List GV)
  | cells, [] => some cells
  | cells, (i, v) :: rest => match place i with
    | none => none
    | some (off, size) => match Nat.beq v.ats.length size with
      | true => match over cells off v.ats with
        | some c => fillG place c rest
        | none => none
      | false => none
def fplaces (P : Program) : List Field → Option (List (Nat × Nat))
  | [] => some []
  | f :: l => match szOf P f.type with
    | some n => match fplaces P l with
      | some r => some ((f.offset, n) :: r)
      | none => none
    | none => none
def rep (n : Nat) (z : List GV) : List GV := match n with
  | 0 => []
  | n + 1 => z ++ rep n z
def backV : Value → Option GV
  | .bool b => some (.bool b)
  | .int k n => some (.int k n)
  | _ => none
def strBin (op : BinOp) (a b : List UInt8) : Option GV := match op with
  | .add => if a.length + b.length ≤ 4294967296 then some (.str (a ++ b)) else none
  | .eql => some (.bool (a == b))
  | .neq => some (.bool (!(a == b)))
  | .lss => some (.bool (Op.bytesLess a b))
  | .leq => some (.bool (Op.bytesLess a b || a == b))
  | .gtr => some (.bool (!(Op.bytesLess a b || a == b)))
  | .geq => some (.bool (!(Op.bytesLess a b)))
  | _ => none
def gEqF (P : Program) (rec_ : TypeId → GV → GV → Option Bool) (xs ys : List GV) : List Field → Option Bool
  | [] => some true
  | f :: l => if f.name = "_" then none else match part P f.type xs f.offset, part P f.type ys f.offset with
    | some x, some y => match rec_ f.type x y with
      | some true => gEqF P rec_ xs ys l
      | r => r
    | _, _ => none
def gEq (P : Program) : Nat → TypeId → GV → GV → Option Bool
  | 0, _, _, _ => none
  | d + 1, t, x, y => match P.underlying t, x, y with
    | some .bool, .bool a, .bool b => some (a == b)
    | some (.int _), .int k a, .int k' b => if k = k' then some (a == b) else none
    | some .string, .str a, .str b => some (a == b)
    | some (.pointer _), .nilp, .nilp => some true
    | some (.pointer _), .nilp, .ptr _ _ => some false
    | some (.pointer _), .ptr _ _, .nilp => some false
    | some (.slice _), .nils, .nils => some true
    | some (.slice _), .nils, .sl .. => some false
    | some (.slice _), .sl .., .nils => some false
    | some (.slice _), .nils, .sle => some false
    | some (.slice _), .sle, .nils => some false
    | some (.map ..), .nilm, .nilm => some true
    | some (.map ..), .nilm, .map _ => some false
    | some (.map ..), .map _, .nilm => some false
    | some (.struct fs), .agg xs, .agg ys => if P.stoodInHeld t = true ∨ P.eqGuardType P.depth t = true then none else gEqF P (gEq P d) xs ys fs.toList
    | _, _, _ => none
def gBin (P : Program) (op : BinOp) (t : TypeId) (x y : GV) : Option GV := match x, y with
  | .int k a, .int k' b => match pureBin op (.int k a) (.int k' b) with
    | some v => backV v
    | none => none
  | .str a, .str b => strBin op a b
  | x, y => match op with
    | .eql => (gEq P 20 t x y).map .bool
    | .neq => (gEq P 20 t x y).map fun b => .bool (!b)
    | _ => none
def gUn (op : UnOp) (x : GV) : Option GV := match op, x with
  | .not, .bool b => some (.bool (!b))
  | .neg, .int k n => some (.int k (k.wrap (0 - n)))
  | _, _ => none
def byteOf : GV → Option UInt8
  | .int .u8 n => some (UInt8.ofNat n.toNat)
  | _ => none
def bytesOf : List GV → Option (List UInt8)
  | [] => some []
  | g :: l => match byteOf g with
    | some b => match bytesOf l with
      | some r => some (b :: r)
      | none => none
    | none => none
def gConv (P : Program) (name : Nat) (s d : TypeId) (x : GV) (S : St) : Option (GV × St) := match P.underlying s, P.underlying d, x with
  | some (.int _), some (.int k), .int _ n => some (.int k (k.wrap n), S)
  | some .string, some .string, .str l => some (.str l, S)
  | some .string, some (.slice e), .str l => match P.underlying e with
    | some (.int .u8) => if l.length ≤ 4294967296 then (newB S name (l.map fun b => .int .u8 b.toNat)).map fun S => (.sl name 0 l.length (.op 1), S) else none
    | _ => none
  | some (.slice e), some .string, .nils => match P.underlying e with
    | some (.int .u8) => some (.str [], S)
    | _ => none
  | some (.slice e), some .string, .sl b off n _ => match P.underlying e with
    | some (.int .u8) => match cellsAt S b off n with
      | some l => (bytesOf l).map fun l => (.str l, S)
      | none => none
    | _ => none
  | _, _, _ => none
def bndG (x : Option GV) (d m : Nat) : Option Nat := match x with
  | none => if d ≤ m then some d else none
  | some (.int _ n) => if 0 ≤ n ∧ n ≤ m then some n.toNat else none
  | _ => none
def gSlice (P : Program) (t : TypeId) (S : St) (x : GV) (lo hi mx : Option GV) : Option GV := match P.underlying t, x with
  | some .string, .str s => match mx with
    | some _ => none
    | none => match bndG hi s.length s.length with
      | some h => match bndG lo 0 h with
        | some l => some (.str ((s.drop l).take (h - l)))
        | none => none
      | none => none
  | some (.slice e), .nils => match bndG mx 0 0, bndG hi 0 0, bndG lo 0 0 with
    | some _, some _, some _ => match mx, hi with
      | some _, none => none
      | _, _ => match szOf P e with
        | some _ => some .nils
        | none => none
    | _, _, _ => none
  | some (.slice e), .sl b off len (.kn c) => match szOf P e with
    | none => none
    | some es => match mx with
      | none => match bndG hi len c with
        | none => none
        | some h => match bndG lo 0 h with
          | none => none
          | some l => some (.sl b (if c = l then off else off + l * es) (h - l) (.kn (c - l)))
      | some _ => none
  | some (.slice e), .sl b off len (.op es) => match szOf P e, S.h.get b with
    | some es', some (.cells cs) => match Nat.beq es es', Nat.blt 0 es with
      | true, true => match mx with
        | some _ => (match hi with
          | none => none
          | some _ => match bndG mx 0 ((cs.length - off) / es) with
            | none => none
            | some m => match bndG hi 0 m with
              | none => none
              | some h => match bndG lo 0 h with
                | none => none
                | some l => some (.sl b (if m = l then off else off + l * es) (h - l) (.kn (m - l))))
        | none => match bndG hi len ((cs.length - off) / es) with
          | none => none
          | some h => match bndG lo 0 h with
            | none => none
            | some l => if l = 0 ∨ l < (cs.length - off) / es then some (.sl b (off + l * es) (h - l) (.op es)) else if h = l then some .sle else none
      | _, _ => none
    | _, _ => none
  | _, _ => none
def fieldOff (P : Program) (s : TypeId) (f : Nat) : Option (Nat × TypeId) := match P.underlying s with
  | some (.struct fs) => match fs.toList[f]? with
    | some f => some (f.offset, f.type)
    | none => none
  | _ => none
def idxG (i : GV) (len : Nat) : Option Nat := match i with
  | .int _ n => if 0 ≤ n ∧ n < len then some n.toNat else none
  | _ => none
def gIndexAddr (P : Program) (t : TypeId) (x i : GV) : Option GV := match P.underlying t, x with
  | some (.slice e), .sl b off len _ => match idxG i len, szOf P e with
    | some k, some es => some (.ptr b (off + k * es))
    | _, _ => none
  | _, _ => none
def gIndex (P : Program) (t : TypeId) (x i : GV) : Option GV := match P.underlying t, x with
  | some (.array n e), .agg l => match idxG i n, szOf P e with
    | some k, some es => part P e l (k * es)
    | _, _ => none
  | some .string, .str s => match idxG i s.length with
    | some k => match s[k]? with
      | some b => some (.int .u8 b.toNat)
      | none => none
    | none => none
  | _, _ => none
def keyEq : TypeDesc → GV → GV → Option Bool
  | .int _, .int k a, .int k' b => if k = k' then some (a == b) else none
  | .string, .str a, .str b => some (a == b)
  | .bool, .bool a, .bool b => some (a == b)
  | _, _, _ => none
def findG (d : TypeDesc) (k : GV) : List (GV × GV) → Nat → Option (Option (Nat × GV))
  | [], _ => some none
  | (a, v) :: es, i => match keyEq d k a with
    | some true => some (some (i, v))
    | some false => findG d k es (i + 1)
    | none => none
def keyT : TypeDesc → Bool
  | .int _ => true
  | .string => true
  | .bool => true
  | _ => false
def mapOf (S : St) : GV → Option (List (GV × GV))
  | .nilm => some []
  | .map b => match S.h.get b with
    | some (.map es) => some es
    | _ => none
  | _ => none
def okG (ok : Bool) (v : GV) (b : Bool) : GV := match ok with
  | true => .tup [v, .bool b]
  | false => v
def gLookup (P : Program) (t : TypeId) (S : St) (x i : GV) (ok : Bool) : Option GV := match P.underlying t with
  | some (.map kt et) => match P.underlying kt with
    | some d => match keyT d, mapOf S x with
      | true, some es => match findG d i es 0 with
        | some (some (_, v)) => some (okG ok v true)
        | some none => match P.info? et with
          | some inf => match inf.zero with
            | some z => match ofVal z with
              | some v => some (okG ok v false)
              | none => none
            | none => none
          | none => none
        | none => none
      | _, _ => none
    | none => none
  | _ => none
def setAt : List (GV × GV) → Nat → GV → GV → List (GV × GV)
  | [], _, _, _ => []
  | _ :: es, 0, k, v => (k, v) :: es
  | e :: es, n + 1, k, v => e :: setAt es n k v
def gMapUpd (P : Program) (t : TypeId) (S : St) (m k v : GV) : Option St := match P.underlying t, m with
  | some (.map kt et), .map b => match P.underlying kt, S.h.get b with
    | some d, some (.map es) => match keyT d, findG d k es 0 with
      | true, some (some (i, _)) => S.put b (some (.map (setAt es i k v)))
      | true, some none => S.put b (some (.map (es ++ [(k, v)])))
      | _, _ => none
    | _, _ => none
  | _, _ => none
def srcG (S : St) (es : Nat) : GV → Option (Nat × List GV)
  | .nils => some (0, [])
  | .sle => some (0, [])
  | .sl b off n _ => (cellsAt S b off (n * es)).map fun l => (n, l)
  | .str s => some (s.length, s.map fun b => .int .u8 b.toNat)
  | _ => none
def isStr : GV → Bool
  | .str _ => true
  | _ => false
def srcT : TypeDesc → Bool
  | .slice _ => true
  | .string => true
  | _ => false
def gAppend (P : Program) (name : Nat) (t t2 : TypeId) (S : St) (s x : GV) : Option (GV × St) := match elB P t, P.underlying t2 with
  | some (e, es), some d2 => match srcT d2 && (!(isStr x) || Nat.beq es 1) && Nat.blt 0 es, zeroB P e, srcG S es x with
    | true, some z, some (n, new) => match Nat.ble n 1000000 && Nat.beq z.length es with
      | false => none
      | true => match Nat.beq n 0, s with
        | true, .nils => some (.nils, S)
        | true, .sl b off len c => some (.sl b off len c, S)
        | true, _ => none
        | false, .nils => (newB S name new).map fun S => (.sl name 0 n (.op es), S)
        | false, .sl b off len (.kn c) => match Nat.blt c (len + n) && Nat.ble len 1000000 with
          | true => match cellsAt S b off (len * es) with
            | some old => (newB S name (old ++ new)).map fun S => (.sl name 0 (len + n) (.op es), S)
            | none => none
          | false => none
        | false, .sl b off len (.op es') => match Nat.beq es es' && Nat.ble len 1000000, cellsAt S b off (len * es) with
          | true, some old => match S.put b none with
            | some S => (newB S name (old ++ new)).map fun S => (.sl name 0 (len + n) (.op es), S)
            | none => none
          | _, _ => none
        | false, _ => none
    | _, _, _ => none
  | _, _ => none
def gClear (P : Program) (t : TypeId) (S : St) (x : GV) : Option (GV × St) := match elB P t, x with
  | some (e, es), .sl b off (len + 1) _ => match zeroB P e with
    | some z => if z.length = es then (storeC S b off (rep (len + 1) z)).map fun S => (.tup [], S) else none
    | none => none
  | some _, .sl b off 0 _ => some (.tup [], S)
  | some _, .sle => some (.tup [], S)
  | some _, .nils => some (.tup [], S)
  | _, _ => none
def maxG : GV → List GV → Option GV
  | v, [] => some v
  | .int k a, .int _ b :: l => maxG (.int k (if b > a then b else a)) l
  | _, _ => none
def lenG (P : Program) (t : TypeId) (S : St) (x : GV) : Option Nat := match P.underlying t, x with
  | some .string, .str s => some s.length
  | some (.slice _), .nils => some 0
  | some (.slice _), .sle => some 0
  | some (.slice _), .sl _ _ n _ => some n
  | some (.map ..), .nilm => some 0
  | some (.map ..), .map b => match S.h.get b with
    | some (.map es) => some es.length
    | _ => none
  | _, _ => none
def gBuiltin (P : Program) (name : Nat) (b : Builtin) (ts : List TypeId) (args : List GV) (S : St) : Option (GV × St) := match b, ts, args with
  | .len, [t], [x] => (lenG P t S x).map fun (n : Nat) => (.int .i64 n, S)
  | .append, [t, t2], [s, x] => gAppend P name t t2 S s x
  | .clear, [t], [x] => gClear P t S x
  | .max, _, x :: l => (maxG x l).map fun v => (v, S)
  | _, _, _ => none
abbrev Cl := FuncId → List GV → St → Option (GV × St)
def isNilG : GV → Bool
  | .ptr .. => false
  | .func .. => false
  | _ => true
def gopt (f : GF) : Option Operand → Option (Option GV)
  | none => some none
  | some x => (gev f x).map some
def gOp (P : Program) (call : Cl) (name : Nat) (o : Oper) (f : GF) (S : St) : Option (GV × St) := match o.op with
  | .move x => (gev f x).map fun v => (v, S)
  | .assign x => (gev f x).map fun v => (v, S)
  | .pick c a b => match gev f c with
    | some (.bool true) => (gev f a).map fun v => (v, S)
    | some (.bool false) => (gev f b).map fun v => (v, S)
    | _ => none
  | .alloc t => match zeroB P t with
    | some z => (newB S name z).map fun S => (.ptr name 0, S)
    | none => none
  | .box _ x => match gev f x with
    | some v => (newB S name v.ats).map fun S => (.ptr name 0, S)
    | none => none
  | .build t parts => match zeroB P t, gevp f parts.toList, P.underlying t with
    | some z, some ps, some (.struct fs) => match fplaces P fs.toList with
      | some pl => (fillG (fun i => pl[i]?) z ps).map fun c => (.agg c, S)
      | none => none
    | some z, some ps, some (.array _ e) => match szOf P e with
      | some n => (fillG (fun i => some (i * n, n)) z ps).map fun c => (.agg c, S)
      | none => none
    | _, _, _ => none
  | .buildSlice t len parts => match elB P t, gevp f parts.toList with
    | some (e, n), some ps => match zeroB P e with
      | some z => if len * n ≤ 65536 ∧ z.length = n then (match fillG (fun i => some (i * n, n)) (rep len z) ps with
        | some c => (newB S name c).map fun S => (.sl name 0 len (.kn len), S)
        | none => none) else none
      | none => none
    | _, _ => none
  | .load t a => match gev f a with
    | some (.ptr b off) => (loadG P t S b off).map fun v => (v, S)
    | _ => none
  | .store t a x => match gev f a, gev f x, szOf P t with
    | some (.ptr b off), some v, some n => match Nat.beq v.ats.length n with
      | true => (storeC S b off v.ats).map fun S => (.tup [], S)
      | false => none
    | _, _, _ => none
  | .nilCheck x => match gev f x with
    | some v => match isNilG v with
      | false => some (v, S)
      | true => none
    | none => none
  | .binOp op t x y _ => match gev f x, gev f y with
    | some x, some y => (gBin P op t x y).map fun v => (v, S)
    | _, _ => none
  | .unOp op _ x => match gev f x with
    | some x => (gUn op x).map fun v => (v, S)
    | none => none
  | .convert s d x => match gev f x with
    | some x => gConv P name s d x S
    | none => none
  | .makeFunc (.func g) a c => match gevs f a.toList, gevs f c.toList with
    | some a, some c => some (.func g a c, S)
    | _, _ => none
  | .makeMap t none => (S.put name (some (.map []))).map fun S => (.map name, S)
  | .makeSlice t l c => match elB P t, gev f l, gev f c with
    | some (e, n), some (.int _ l), some (.int _ c) => match zeroB P e with
      | some z => if 0 ≤ l ∧ l ≤ c ∧ c ≤ 65536 ∧ z.length = n then (newB S name (rep c.toNat z)).map fun S => (.sl name 0 l.toNat (.kn c.toNat), S) else none
      | none => none
    | _, _, _ => none
  | .slice t x lo hi mx => match gev f x, gopt f lo, gopt f hi, gopt f mx with
    | some x, some lo, some hi, some mx => (gSlice P t S x lo hi mx).map fun v => (v, S)
    | _, _, _, _ => none
  | .fieldAddr s x i => match gev f x, fieldOff P s i with
    | some (.ptr b off), some (o, t) => match szOf P t with
      | some (_ + 1) => some (.ptr b (off + o), S)
      | _ => none
    | _, _ => none
  | .field s x i => match gev f x, fieldOff P s i with
    | some (.agg l), some (o, t) => (part P t l o).map fun v => (v, S)
    | _, _ => none
  | .indexAddr t x i => match gev f x, gev f i with
    | some x, some i => (gIndexAddr P t x i).map fun v => (v, S)
    | _, _ => none
  | .index t x i => match gev f x, gev f i with
    | some x, some i => (gIndex P t x i).map fun v => (v, S)
    | _, _ => none
  | .lookup t x i ok => match gev f x, gev f i with
    | some x, some i => (gLookup P t S x i ok).map fun v => (v, S)
    | _, _ => none
  | .mapUpdate t m k v => match gev f m, gev f k, gev f v with
    | some m, some k, some v => (gMapUpd P t S m k v).map fun S => (.tup [], S)
    | _, _, _ => none
  | .extract x i => match gev f x with
    | some (.tup l) => (l[i]?).map fun v => (v, S)
    | _ => none
  | .defer c => match c.callee, c.args.toList with
    | .value g, [] => match gev f g with
      | some (.func g _ _) => some (.tup [], ⟨S.h, S.nx, g :: S.df, S.ow, S.lg⟩)
      | _ => none
    | _, _ => none
  | .call c => match gevs f c.args.toList with
    | some args => match c.callee with
      | .value g => match gev f g with
        | some (.func g a e) => call g (a ++ (args ++ e)) S
        | _ => none
      | .builtin b => gBuiltin P name b c.argTypes.toList args S
      | _ => none
    | none => none
  | _ => none
def wantG (ops : List Oper) (o : Oper) (f : GF) : Option Bool := match o.guard with
  | none => some true
  | some (j, want) => match ops[j]? with
    | some p => match p.dst with
      | some d => match f.get d with
        | some (.bool b) => some (b == want)
        | some _ => some false
        | none => none
      | none => none
    | none => none
def putG (n : Nat) (f : GF) (d : Option Tmp) (v : GV) : Option GF := match d with
  | none => some f
  | some d => match Nat.blt d n, Nat.blt d lim with
    | true, true => some (f.set fuelT d (some v))
    | _, _ => none
structure GO where
  run : Nat → Oper → GF → St → Option (GV × St)
  fl : Oper → GF → Bool
def stepG (op : GO) (n : Nat) (ops : List Oper) (base i : Nat) (o : Oper) (f : GF) (S : St) : Option (GF × St) := match wantG ops o f with
  | some true => match op.run (base + i) o f S with
    | some (v, S) => (putG n f o.dst v).map fun f => (f, S)
    | none => none
  | some false => (putG n f o.dst (.tup [])).map fun f => (f, S)
  | none => none
def seqG (op : GO) (n : Nat) (ops : List Oper) (base : Nat) : List Oper → Nat → GF → St → Option (GF × St)
  | [], _, f, S => some (f, S)
  | o :: l, i, f, S => match stepG op n ops base i o f S with
    | some (f, S) => seqG op n ops base l (i + 1) f S
    | none => none
inductive GX where
  | nrm
  | exit (id : Nat)
  | ret
def loopG (body : GF → St → Option (GX × GF × St)) : Nat → GF → St → Option (GX × GF × St)
  | 0, _, _ => none
  | L + 1, f, S => match body f S with
    | some (.nrm, f, S) => loopG body L f S
    | r => r
def gcb : GC → GC → Bool
  | .kn c, .kn d => Nat.beq c d
  | .op c, .op d => Nat.beq c d
  | _, _ => false
mutual
def GV.beq : GV → GV → Bool
  | .bool a, .bool b => a == b
  | .int k a, .int k' b => match decide (k = k') with
    | true => decide (a = b)
    | false => false
  | .str a, .str b => decide (a = b)
  | .nilp, .nilp => true
  | .ptr a i, .ptr b j => Nat.beq a b && Nat.beq i j
  | .nils, .nils => true
  | .sle, .sle => true
  | .sl a i l c, .sl b j m d => Nat.beq a b && Nat.beq i j && Nat.beq l m && gcb c d
  | .nilm, .nilm => true
  | .map a, .map b => Nat.beq a b
  | .nilf, .nilf => true
  | .func f a c, .func g b d => Nat.beq f g && beqs a b && beqs c d
  | .agg a, .agg b => beqs a b
  | .tup a, .tup b => beqs a b
  | _, _ => false
def beqs : List GV → List GV → Bool
  | [], [] => true
  | x :: l, y :: m => GV.beq x y && beqs l m
  | _, _ => false
end
def beqB : Option GB → Option GB → Bool
  | none, none => true
  | some (.cells a), some (.cells b) => beqs a b
  | some (.map []), some (.map []) => true
  | _, _ => false
def noneB {α : Type} : Option α → Bool
  | none => true
  | some _ => false
def floatK : Op → Bool
  | .call c => match c.callee with
    | .builtin .len | .builtin .cap | .builtin .min | .builtin .max => true
    | _ => false
  | .store .. | .mapUpdate .. | .insert .. | .defer .. => false
  | _ => true
def freeD (ops : Array Oper) (i : Nat) (o : Oper) : Bool := match o.dst with
  | none => true
  | some d => (List.range ops.size).all fun j => match ops[j]? with
    | none => true
    | some p => !((p.looksAt ops).any (Nat.beq d)) || (!(Nat.beq j i) && depn ops 8 j i)
def isFl (op : GO) (ops : Array Oper) (i : Nat) (o : Oper) (f : GF) : Bool := freeD ops i o && (op.fl o f || (match wantG ops.toList o f with | some false => true | _ => false))
def hasN (l : List Nat) (i : Nat) : Bool := l.any (Nat.beq i)
def depsDone (o : Oper) (done : List Nat) : Bool := o.after.toList.all fun e => !(Region.binds .any e) || hasN done e.on
def checkL (op : GO) (ops : Array Oper) (base : Nat) (f : GF) (S : St) (i : Nat) : Bool := match ops[i]? with
  | none => false
  | some o => freeD ops i o && match wantG ops.toList o f with
    | some true => op.fl o f && (match op.run (base + i) o f S with
      | some (v, S') => beqB (S'.h.get (base + i)) (S.h.get (base + i)) && noneB (S'.ow.get (base + i)) && noneB (S.ow.get (base + i)) && (match o.dst with
        | none => true
        | some d => match f.get d with
          | some u => GV.beq v u
          | none => false)
      | none => false)
    | some false => (match o.dst with
      | none => true
      | some d => match f.get d with
        | some u => GV.beq (.tup []) u
        | none => false)
    | none => false
def satG (op : GO) (n : Nat) (ops : Array Oper) (base : Nat) : List (Nat × Oper) → List Nat → List Nat → GF → St → Option (List (Nat × Oper) × List Nat × List Nat × GF × St)
  | [], done, loose, f, S => some ([], done, loose, f, S)
  | (i, o) :: l, done, loose, f, S => match depsDone o done && isFl op ops i o f with
    | true => match stepG op n ops.toList base i o f S with
      | some (f, S) => satG op n ops base l (i :: done) (i :: loose) f S
      | none => none
    | false => match satG op n ops base l done loose f S with
      | some (rem, r) => some ((i, o) :: rem, r)
      | none => none
def regG (op : GO) (n : Nat) (ops : Array Oper) (base : Nat) : Nat → List (Nat × Oper) → List Nat → List Nat → GF → St → Option (GF × St)
  | 0, _, _, _, _, _ => none
  | k + 1, rem, done, loose, f, S => match satG op n ops base rem done loose f S with
    | some (rem, done, loose, f, S) => match loose.all (checkL op ops base f S) with
      | false => none
      | true => match rem.filter (fun p => depsDone p.2 done) with
        | [] => match rem with
          | [] => some (f, S)
          | _ => none
        | [(m, o)] => match stepG op n ops.toList base m o f S with
          | some (f, S) => regG op n ops base k (rem.filter fun p => !(Nat.beq p.1 m)) (m :: done) (loose.filter fun i => !(depn ops 8 m i)) f S
          | none => none
        | _ => none
    | none => none
def numbered : List Oper → Nat → List (Nat × Oper)
  | [], _ => []
  | o :: l, i => (i, o) :: numbered l (i + 1)
def backE (ops : Array Oper) : Bool := (List.range ops.size).all fun i => match ops[i]? with
  | none => true
  | some o => o.after.toList.all fun e => !(Region.binds .any e) || Nat.blt e.on i
def gC (op : GO) (L n : Nat) : Code → GF → St → Option (GX × GF × St)
  | .skip, f, S => some (.nrm, f, S)
  | .label _, f, S => some (.nrm, f, S)
  | .ret, f, S => some (.ret, f, S)
  | .exit id, f, S => some (.exit id, f, S)
  | .seq a b, f, S => match gC op L n a f S with
    | some (.nrm, f, S) => gC op L n b f S
    | r => r
  | .cond c x y, f, S => match gev f c with
    | some (.bool true) => gC op L n x f S
    | some (.bool false) => gC op L n y f S
    | _ => none
  | .block id c, f, S => match gC op L n c f S with
    | some (.exit id', f, S) => match Nat.beq id' id with
      | true => some (.nrm, f, S)
      | false => some (.exit id', f, S)
    | r => r
  | .loop c, f, S => loopG (gC op L n c) L f S
  | .region _ ops false, f, S => match seqG op n ops.toList S.nx ops.toList 0 f ⟨S.h, S.nx + ops.size, S.df, S.ow, S.lg⟩ with
    | some (f, S) => some (.nrm, f, S)
    | none => none
  | .region _ ops true, f, S => match backE ops && dstOk n ops.toList with
    | true => match regG op n ops S.nx (ops.size + 1) (numbered ops.toList 0) [] [] f ⟨S.h, S.nx + ops.size, S.df, S.ow, S.lg⟩ with
      | some (f, S) => some (.nrm, f, S)
      | none => none
    | false => none
  | _, _, _ => none
def argsT : List GV → Nat → GF → GF
  | [], _, f => f
  | v :: l, i, f => argsT l (i + 1) (f.set fuelT i (some v))
def resG (P : Program) (f : GF) (S : St) : List ResultVar → Option (List GV)
  | [] => some []
  | .tmp t :: l => match f.get t with
    | some v => match resG P f S l with
      | some r => some (v :: r)
      | none => none
    | none => none
  | .cell a t :: l => match f.get a with
    | some (.ptr b off) => match loadG P t S b off with
      | some v => match resG P f S l with
        | some r => some (v :: r)
        | none => none
      | none => none
    | _ => none
def packG : List GV → GV
  | [v] => v
  | vs => .tup vs
def isRec (P : Program) (g : FuncId) : Bool := match P.funcs[g]? with
  | some fn => match fn.results.toList, fn.body with
    | [], some (.seq (.region _ ⟨[o, q]⟩ false) (.cond (.tmp t) _ .skip)) => match o.guard, q.guard, o.op, q.op, o.dst, q.dst with
      | none, none, .call ⟨.builtin .recover, ⟨[]⟩, _⟩, .binOp .neq ty (.tmp d) (.const .nilIface) _, some d', some t' =>
        Nat.beq d d' && Nat.beq t t' && Nat.blt d fn.ntmps && Nat.blt t fn.ntmps && (match P.underlying ty with | some (.interface _) => true | _ => false)
      | _, _, _, _, _, _ => false
    | _, _ => false
  | none => false
def gRun (P : Program) (L : Nat) : Nat → Cl
  | 0, _, _, _ => none
  | k + 1, g, args, S => match P.funcs[g]? with
    | none => none
    | some fn => match fn.body with
      | none => none
      | some c => match Nat.ble args.length fn.ntmps && Nat.ble args.length 1000 with
        | false => none
        | true => match gC ⟨gOp P (gRun P L k), fun o _ => floatK o.op⟩ L fn.ntmps c (argsT args 0 .lf) ⟨S.h, S.nx, [], S.ow, S.lg⟩ with
          | some (.exit _, _, _) => none
          | some (_, f, S') => match S'.df.all (isRec P) with
            | true => match resG P f S' fn.results.toList with
              | some vs => some (packG vs, ⟨S'.h, S'.nx, S.df, S'.ow, S'.lg⟩)
              | none => none
            | false => none
          | none => none
def names (P : Program) : Bool := P.funcs.toList.all fun fn => !(fn.name == "runtime.NumGoroutine")
def yes (P : Program) (L k g : Nat) : Bool := match gRun P L k g [] ⟨.lf, 0, [], .lf, []⟩ with
  | some (.bool b, _) => b
  | _ => false
end Go.E
