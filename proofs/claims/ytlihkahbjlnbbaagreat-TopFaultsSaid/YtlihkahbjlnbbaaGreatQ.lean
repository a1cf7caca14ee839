
/- Memory laws for exchanges of elements, whole elements that are written, and slices that are compared with nil. Conditions: those of each theorem. -/
import Derived.Test.YtlihkahbjlnbbaaGreatH
set_option linter.unusedSimpArgs false
set_option linter.unusedVariables false
namespace Go.V
open Go
universe u
theorem R {α:Sort u}{a:α}:a=a:=rfl
abbrev Vl {α:Type} (a:Option Addr) (d:List α) (c:Nat):Value:=.slice a d.length c
theorem MbR {α:Type}{P:Program}{Q:Exit→Fr→World→Prop}{t:Tmp}{x y:Code}{fr:Fr}{w:World}{A B:Option α}{r:α}(b:Bool)(g:fr t=.bool b)(h:(if b=true then A else B)=some r)
    (q:A=some r→Wl P x Q (put fr t (.bool true)) w) (j:B=some r→Wl P y Q (put fr t (.bool false)) w):Wl P (.cond (.tmp t) x y) Q fr w:=Mb0 b g (fun e=>q (MaJ e h)) (fun e=>j (MaK e h))
theorem MbS {α:Type}{P:Program}{all:List Oper}{M:List Nat}{Q:Fr→World→Prop}{l:List (Oper×Bool)}{fr:Fr}{w:World}{A B:Option α}{r:α}(d:Nat)(b:Bool)(g:fr d=.bool b)(h:(if b=true then A else B)=some r)
    (q:A=some r→P9 P all M Q l (put fr d (.bool true)) w) (j:B=some r→P9 P all M Q l (put fr d (.bool false)) w):P9 P all M Q l fr w:=M9H d b g (fun e=>q (MaJ e h)) (fun e=>j (MaK e h))
theorem x_u {P:Program}{all:List Oper}{M:List Nat}{Q:Fr→World→Prop}{l:List (Oper×Bool)}{fr:Fr}{w:World}(k:Nat)(g:List (Nat×Value))(j:P9 P all M Q (l.drop k) (MaY g fr) w)(h:M58 all k l fr=some g:=by kernel_rfl):P9 P all M Q l fr w:=M6e k g l fr w h j
theorem Xy {α:Type}{xs:List α}{i:Int}{x:α}(h:idx xs i=some x)(j:Nat)(z:α):∃ y,idx (xs.set j z) i=some y:=by
  obtain ⟨g,h1,q⟩:=R7 h;unfold idx;rw [if_pos g];exact ⟨_,List.getElem?_eq_getElem (by rw [List.length_set]; omega)⟩
theorem ZJ {a:Option Addr}{g o:Nat}(ha:a=some ⟨g,o,none⟩):g∈ML a:=by subst ha; simp [ML]
theorem PH {P:Program}{M:List Nat}{α:Type}{e:MN α}{j T:Nat}{w:World}{g:Nat}{a:Option Addr}{c:Nat}{xs:List α}{i:Int}{x y:α}(ha:a=some ⟨g,0,none⟩)(o:Nat)(v:Value)(A:MT P j)(h:M9 e T w M a c xs)(r:∀ b∈ML a,b∈M)(B:idx xs i=some x)
    (h1:v.oneCell'=true) (q:Nat.blt o e.n=true) (D:∀ w M cs,e.R w M cs x→e.R w M (cs.set o v) y) :
    ∃ w',(Instr.storeAt j (.pointer (some ⟨g,i.toNat*e.n+o,none⟩)) v).run P w=.ok () w'∧Ev (ML a) w w'∧M9 e T w' M a c (xs.set i.toNat y):=by
  subst ha;exact M1z o v A h (r g (by simp [ML])) B h1 q D
theorem ZK {α:Type}{e:MN α}{T:Nat}{w:World}{M:List Nat}{g:Nat}{a:Option Addr}{c:Nat}{xs:List α}{i:Int}{x:α}(ha:a=some ⟨g,0,none⟩)(h:M9 e T w M a c xs)(j:idx xs i=some x) :
    ∃ cs,Ms w [] ⟨g,i.toNat*e.n,none⟩ cs∧e.R w M cs x:=by
  subst ha; exact M5i h j
def eqF (d:Nat) (xs ys:Array Value):List Field→Sem Bool
  | []=>pure true
  | f :: fs => if f.name ≠ "_" then do
      let a ← part f.type xs f.offset
      let b ← part f.type ys f.offset
      let c ← Op.equalIn d f.type a b
      if !c then pure false else eqF d xs ys fs
    else eqF d xs ys fs
theorem Y0 {P:Program}{t:TypeId}{fs:Array Field}(ht:P.underlying t=some (.struct fs))(hs:P.stoodInHeld t=false)(d:Nat)(xs ys:Array Value)(w:World) :
    (Op.equalIn (d+1) t (.agg xs) (.agg ys)).run P w=(eqF d xs ys fs.toList).run P w:=by
  simp only [Op.equalIn,Sem.run_bind,run_underlying ht,Result.andThen_ok];rw [← Array.forIn_toList];have e:∀ w:World,(program).run P w=.ok P w:=fun _=>rfl
  simp only [e,Result.andThen_ok,hs,Bool.false_eq_true,if_false,Sem.run_bind];generalize fs.toList=L
  induction L generalizing w with
  | nil=>simp [eqF]
  | cons f L ih=>
    simp only [List.forIn_cons,eqF]
    by_cases hn : f.name ≠ "_"
    · simp only [if_pos hn,Sem.run_bind];generalize (part f.type xs f.offset).run P w=r1;cases r1 with
      | ok a w1=>
        simp only [Result.andThen_ok];generalize (part f.type ys f.offset).run P w1=r2;cases r2 with
        | ok b w2=>
          simp only [Result.andThen_ok];generalize (Op.equalIn d f.type a b).run P w2=r3;cases r3 with
          | ok c w3=>
            simp only [Result.andThen_ok];cases c with
            | false=>rfl
            | true=>
              simp only [Bool.not_true,Bool.false_eq_true,if_false,Sem.run_pure,Result.andThen_ok];exact ih w3
          | _=>rfl
        | _=>rfl
      | _=>rfl
    · simp only [if_neg hn,Sem.run_pure,Result.andThen_ok,Sem.run_bind];exact ih w
theorem TD {P : Program} {d : Nat} {xs ys : Array Value} {f : Field} {fs : List Field} {w : World} {x y : Value} {b r : Bool} (hn : (f.name != "_") = true) (ha : ∀ w, (isAgg f.type).run P w = .ok false w) (hx : xs[f.offset]? = some x) (hy : ys[f.offset]? = some y)
    (h1:∀ w,(Op.equalIn d f.type x y).run P w=.ok b w) (h2:(eqF d xs ys fs).run P w=.ok r w):(eqF d xs ys (f::fs)).run P w=.ok (b&&r) w:=by
  have hn' : f.name ≠ "_" := by simpa using hn
  have p1:∀ w,(part f.type xs f.offset).run P w=.ok x w:=fun w=>by unfold part; simp only [Sem.run_bind,ha,Result.andThen_ok,Bool.false_eq_true,if_false,hx,Sem.run_pure]
  have p2:∀ w,(part f.type ys f.offset).run P w=.ok y w:=fun w=>by unfold part; simp only [Sem.run_bind,ha,Result.andThen_ok,Bool.false_eq_true,if_false,hy,Sem.run_pure]
  simp only [eqF,if_pos hn',Sem.run_bind,p1,p2,h1,Result.andThen_ok];cases b with
  | false=>rfl
  | true=>simp only [Bool.not_true,Bool.false_eq_true,if_false,h2,Bool.true_and]
theorem M7f {P:Program}{d:Nat}{xs ys:Array Value}{w:World}:(eqF d xs ys []).run P w=.ok true w:=rfl
theorem YB {P:Program}{d:Nat}{t:TypeId}{k:IntKind}(g:P.underlying t=some (.int k))(a b:Int)(w:World):(Op.equalIn (d+1) t (.int k a) (.int k b)).run P w=.ok (a==b) w:=by
  simp only [Op.equalIn,Sem.run_bind,run_underlying g,Result.andThen_ok,if_true,Sem.run_pure]
theorem Mb5 {P:Program}{d:Nat}{t:TypeId}(g:P.underlying t=some .string)(a b:List UInt8)(w:World):(Op.equalIn (d+1) t (.string ⟨⟨a⟩⟩) (.string ⟨⟨b⟩⟩)).run P w=.ok (a==b) w:=by
  simp only [Op.equalIn,Sem.run_bind,run_underlying g,Result.andThen_ok,Sem.run_pure]
  congr 1
  show ((⟨a⟩:Array UInt8)==⟨b⟩)=(a==b)
  simp
theorem M7Q {P:Program}{t:TypeId}{xo yo:Operand}{fs:Array Field}(A:P.underlying t=some (.struct fs))(hs:P.stoodInHeld t=false)(r:P.eqGuardType P.depth t=false){xs ys:Array Value}{b:Bool}(q:∀ w,(eqF 9999 xs ys fs.toList).run P w=.ok b w) :
    ∀ K:Value→Prop,K (.bool b)→Vd P .eql t xo yo (.agg xs) (.agg ys) K:=by
  intro K j;refine ⟨_,fun w=>?_,j⟩;have h1:(eqGuard .eql t xo yo (.agg xs) (.agg ys)).run P w=.ok () w:=by
    unfold eqGuard;simp only [Sem.run_bind];show Sem.run P (if (!P.eqGuardType P.depth t)=true then _ else _) w=_
    rw [r];rfl
  rw [run_bind,h1];show Sem.run P (do pure (.bool (← Op.equal t (.agg xs) (.agg ys))):Sem Value) w=_
  have g:(Op.equal t (.agg xs) (.agg ys)).run P w=.ok b w:=by
    show (Op.equalIn (9999+1) t (.agg xs) (.agg ys)).run P w=_
    rw [Y0 A hs];exact q w
  rw [run_bind,g];rfl
theorem M3V:∀ (l:List (Nat×Value)) (fr:Fr),l.map (fun p=>fr p.1)=l.map (fun p=>p.2)→agree l fr
  | [],_,_=>trivial
  | _::l,fr,h=>⟨(List.cons.inj h).1,M3V l fr (List.cons.inj h).2⟩
theorem MbT {P:Program}{Q:Exit→Fr→World→Prop}{c:Code}{fr:Fr}{w:World}(g:List (Nat×Value))(h:∀ J,Wl P c Q (ofL g J) w)(ha:g.map (fun p=>fr p.1)=g.map (fun p=>p.2):=by kernel_rfl):Wl P c Q fr w:=RJ g (M3V g fr ha) h
theorem MS.pk {w:World}{ls:List (List Nat)}(h:MS w ls)(l:List Nat)(r:List (List Nat))(g:(distinct (l.map some),Pz ls (l.map some))=(true,some r)):MS w r:=h.pick (l.map some) r g
theorem Pk {ls:List (List Nat)}(l:List Nat)(r:List (List Nat))(g:Pz ls (l.map some)=some r):∀ x∈fl r,x∈fl ls:=M5f (l.map some) r g
theorem FR.pk {C:Nat}{ls:List (List Nat)}(h:FR C ls)(l:List Nat)(r:List (List Nat))(g:Pz ls (l.map some)=some r):FR C r:=h.pick (l.map some) r g
theorem NP.pk {g:List Nat}{N:Nat}{ls:List (List Nat)}(h:NP g N ls)(l:List Nat)(r:List (List Nat))(j:Pz ls (l.map some)=some r):NP g N r:=h.pick (l.map some) r j
section
variable {P : Program} {all : List Oper} {M : List Nat} {Q : Fr → World → Prop} {dst : Option Tmp} {ty : TypeId} {pos : String} {after : Array Edge} {guard : Option (Nat × Bool)} {al : Bool} {l l' : List (Oper × Bool)} {fr : Fr} {w : World} {t : TypeId}
theorem Yl {x:Operand}(xv v:Value)(h1:(l',Mn all ⟨dst,.load t x,ty,pos,after,guard⟩ fr,ev fr x)=((⟨dst,.load t x,ty,pos,after,guard⟩,al)::l,some true,xv))
    (g:ME P (qm al M) (Instr.loadAt t xv) w v) (h:P9 P all M Q l (MI fr dst v) w):P9 P all M Q l' fr w:=M4m v (congrArg Prod.fst h1) (congrArg (fun p=>p.2.1) h1) (congrArg (fun p=>p.2.2) h1) g h
theorem Yf {x:Operand}{i:Nat}(xv v:Value)(h1:(l',Mn all ⟨dst,.fieldAddr t x i,ty,pos,after,guard⟩ fr,ev fr x)=((⟨dst,.fieldAddr t x i,ty,pos,after,guard⟩,al)::l,some true,xv))
    (g:Alw P (Instr.fieldAt t xv i) v) (h:P9 P all M Q l (MI fr dst v) w):P9 P all M Q l' fr w:=M1X v (congrArg Prod.fst h1) (congrArg (fun p=>p.2.1) h1) (congrArg (fun p=>p.2.2) h1) g h
theorem Yi {x y:Operand}(xv yv v:Value)(h1:(l',Mn all ⟨dst,.indexAddr t x y,ty,pos,after,guard⟩ fr,ev fr x,ev fr y)=((⟨dst,.indexAddr t x y,ty,pos,after,guard⟩,al)::l,some true,xv,yv))
    (g:ME P (qm al M) (Instr.indexAt t xv yv) w v) (h:P9 P all M Q l (MI fr dst v) w):P9 P all M Q l' fr w:=Xr v (congrArg Prod.fst h1) (congrArg (fun p=>p.2.1) h1) (congrArg (fun p=>p.2.2.1) h1) (congrArg (fun p=>p.2.2.2) h1) g h
theorem Yg {x q:Operand}{d2:Option Tmp}{F:TypeId}{E:String}{r:Array Edge}{B:Option (Nat×Bool)}{A:Bool}{D:List (Oper×Bool)}{g T:TypeId}{f:Nat}{cs:Array Value}{fz:Nat×Nat}(b j i:Nat)(v:Value)
    (h1:(l',Mn all ⟨dst,.fieldAddr t x f,ty,pos,after,guard⟩ fr,ev fr x)=((⟨dst,.fieldAddr t x f,ty,pos,after,guard⟩,al)::D,some true,Vp b j))
    (G:(D,Mn all ⟨d2,.load g q,F,E,r,B⟩ (MI fr dst (Vp b i)),ev (MI fr dst (Vp b i)) q)=((⟨d2,.load g q,F,E,r,B⟩,A)::l,some true,Vp b i))
    (I:Alw P (Instr.fieldAt t (Vp b j) f) (Vp b i)) (O:MT P g) (H:w.heap[b]? = some (.cells cs T fz)) (J:b∉qm A M) (hv:cs[i]? = some v) (h:P9 P all M Q l (MI (MI fr dst (Vp b i)) d2 v) w):P9 P all M Q l' fr w:=
  Yf (Vp b j) (Vp b i) h1 I (Yl (Vp b i) v G (M3S O H J i v hv) h)
end
abbrev Z0:Value:=.slice none 0 0
abbrev eI:MN Int:=Zd .i64
theorem Sa {P:Program}{t T:TypeId}{w:World}{b:Nat}{cs:Array Value}(vs:List Value)(q:TC P t vs.length)(h:w.heap[b]? = some (.cells cs T (0,0)))(j:Nat.ble (0+vs.length) cs.size=true)(h1:vs.all (fun v=>v.oneCell')=true)
    (g:(cs.toList.take 0++vs++cs.toList.drop (0+vs.length)).toArray=vs.toArray) :
    ∃ w',(Instr.storeAt t (.pointer (some ⟨b,0,none⟩)) (.agg vs.toArray)).run P w=.ok () w'∧w'.heap[b]? = some (.cells vs.toArray T (0,0))∧Ev [b] w w':=M0M 0 vs vs.toArray q h j h1 g
abbrev Sj:=@M8z
abbrev Bs:=@bind_some
abbrev Kr:=@M6g
abbrev Ke:=@M5a
abbrev Kt:=@M8x
abbrev Kb:=@M5b
abbrev Ki:=@M6i
abbrev Kl:=@M9P
abbrev Rf:=@M21
abbrev Xk:=@MbQ
abbrev Pi:=@M3T
abbrev Cs:=@MbP
abbrev Xu:=@x_u
abbrev Rb:=@M3S
abbrev Ps:=@M5f
abbrev Ra:=@M4n
abbrev Rv:=@M8y
abbrev Cq:=@MaH
abbrev Ck:=@Mb1
abbrev Ri:=@M1Z
abbrev Cp:=@M7d
abbrev Cb:=@M9M
abbrev Rc:=@M20
abbrev Cr:=@MbA
abbrev Rr:=@MaI
abbrev I1:=@M6h
abbrev Sb:=@M0M
abbrev Cn:=@MbT
abbrev Mf:=@M5d
abbrev Xe:=@MaF
abbrev Lz:=@M6j
abbrev Xc:=@M6f
abbrev Lo:=@M7M
abbrev Lr:=@M7J
abbrev Cv:=@M56
abbrev Ci:=@MbR
abbrev Gl:=@M9R
abbrev Gr:=@M9S
abbrev Lv:=@M1x
abbrev Ce:=@Mb2
abbrev Oi:=@ZG
abbrev Xn:=@MaG
abbrev Cl:=@MaZ
abbrev Pp:=@M2P
abbrev Xm:=@M59
abbrev Xb:=@M0L
abbrev Xa:=@M7c
abbrev Fu:=@M1B
abbrev Cd:=@M9L
abbrev Xw:=@MbS
theorem T0:True:=True.intro
abbrev Bk:=@ML
abbrev U0:=@undef
abbrev Ns:=@Nat.lt_succ_self
abbrev Px (g k:Nat):Value:=.pointer (some ⟨g,k,none⟩)
abbrev Bd (p:Prop) [Decidable p]:Value:=.bool (decide p)
end Go.V
