/- Part D of the proof of TopConserved. No condition. -/
import Derived.Test.YtmihkgopplkcjaaGreatDoorC
set_option linter.all false
set_option maxRecDepth 1000000
set_option maxHeartbeats 0
namespace Go.T
open Go Go.E Go.V Go.Proofs
abbrev D4:Type:=Int×Int×Int×Int
def C5 {α ρ:Type} (p:α→Bool) (dn:Nat→α→ρ) (A:ρ):List α→Nat→ρ
 | [],_=>A
 | a::l,i=>bif p a then dn i a else C5 p dn A l (i+1)
section
variable {α : Type} [BEq α] [LawfulBEq α]
def BI (xs:List α) (x:α):Int:=C5 (λa=>a==x) (λi _=>(i:Int)) (-1) xs 0
end
def JW (s:List (List Int)) (w:Int):Int×Int:=C5 (λl=>decide (0≤BI l w)) (λi l=>((i:Int),BI l w)) (-1,-1) s 0
def vw (d:List Int) (k:Nat):Int:=d.getD k 0
abbrev G8:=List (List UInt8×Int)
abbrev Bp:=List (List Int)
def sm (L row:List Int):Int:=(row.map λx=>vw L x.toNat).sum
def Ln (L:List Int):Prop:=∀ n∈L,1≤n∧n≤400
def Rg (n:Nat) (l:List Int):Prop:=∀ x∈l,0≤x∧x<n
instance (n:Nat) (l:List Int):Decidable (Rg n l):=by unfold Rg;infer_instance
def Tr (T:G8) (L:List Int) (s:Bp) (t:Nat):Prop:=∀ k row tr,k<t→s[k]? = some row→T[k]? = some tr→0≤tr.2∧tr.2≤100000∧sm L row≤tr.2
def Dc (T:G8) (L:List Int) (s:Bp):Prop:=s.length=T.length∧T.length≤24∧L.length≤192∧Ln L∧Rg L.length s.flatten∧s.flatten.Nodup∧Tr T L s s.length
abbrev Su:=JW
def put (w to:Int) (A:Bool) (j:Nat) (row:List Int):List Int:=
 if (j:Int)=to then (if A then w::row.filter (·≠w) else row.filter (·≠w)++[w]) else row.filter (·≠w)
def mv (s:Bp) (w to:Int) (A:Bool):Bp:=s.mapIdx (put w to A)
noncomputable def cd (T:G8) (L:List Int) (s:Bp) (w f t:Int):Int:=
 if w<0∨(L.length:Int)≤w∨f < -1∨(s.length:Int)≤f∨t < -1∨(s.length:Int)≤t then 2
 else if (Su s w).1≠f∨(f = -1∧t = -1) then 17
 else if 0≤t∧t≠f∧(T[t.toNat]?.getD ([],0)).2-sm L (s[t.toNat]?.getD [])<vw L w.toNat then 14 else 0
abbrev jm:=Int×Int×Int×Bool
noncomputable def BJ (T:G8) (L:List Int):List jm→Nat→Bp→(Int×Int)⊕Bp
 | [],_,s=>.inr s
 | m::l,i,s=>if cd T L s m.1 m.2.1 m.2.2.1=0 then BJ T L l (i+1) (mv s m.1 m.2.2.1 m.2.2.2) else .inl ((i:Int),cd T L s m.1 m.2.1 m.2.2.1)
def kd (its:List D4) (a b:Nat):Int:=
 if (its.getD a (0,0,0,0)).1≠(its.getD b (0,0,0,0)).1 then 0 else if (its.getD a (0,0,0,0)).2.1≥(its.getD b (0,0,0,0)).2.1 then 0 else if b<a then 2 else 1
def Js (its:List D4):List (List Int):=(List.range its.length).map λa=>(List.range its.length).map λb=>kd its a b
def Kh (l:List D4) (stay:Bool) (r:List Int):List Int:=r.filter λi=>(l.any λp=>p.1==i)!=stay
end Go.T
namespace Go.T
open Go Go.E Go.V Go.Proofs
noncomputable section
abbrev AC:=Int×List Int
abbrev BE:=AC×List Int
abbrev Aa:=Int×Int×Int×Int
abbrev Ap:=Int×Int×Int×Bool
abbrev A0:=(List UInt8)×Int×List (List UInt8)
abbrev Ba:=Int×Aa
abbrev Bb:=(List Aa)×Int
abbrev Dk:=Int×Int×Ba
abbrev Ac:=(List Aa)×(List Int)×List (List Int)
abbrev A6:=(List UInt8)×Int×Int×Int×Int×Int×Bool×List UInt8
abbrev MD:=Ac×(List (Int×Int))×List Int
abbrev A2:=(List ((List UInt8)×Int))×(List Ba)×(List (Int×Int×Int))×Int×Int
abbrev Ab:=(List Int)×Bb×BE×Int×(List Int)×Int
abbrev Ah:=Int×Int×Int×Int×Int×(List Int)×(List (Int×Int))×A0×(List UInt8)×List Int
abbrev CP:=(List A6)×(List Int)×Dk
abbrev Gt:=(List UInt8)×(List A6)×Dk×List (Int×Int×Int)
abbrev AH:=(List A6)×(List (List Int))×(List A0)×Bool×Ab×Bool
abbrev Ag:=Int×(List Ap)×BE×(List Aa)×Gt×Int×Int
abbrev AA:=A2×(List A6)×(List (List Int))×(List A0)×Bool×Ab
abbrev AR:=A2×AH×Ah×Ag
abbrev ti:Ty:=.int .i64
abbrev ME:Ty:=.pair ti (.sl ti)
abbrev A3:Ty:=.pair .str (.pair ti (.sl .str))
abbrev AK:Ty:=.pair ME (.sl ti)
abbrev Aj:Ty:=.pair ti (.pair ti (.pair ti .bool))
abbrev Ai:Ty:=.pair ti (.pair ti (.pair ti ti))
abbrev BW:Ty:=.pair ti Ai
abbrev Cx:Ty:=.pair (.sl Ai) ti
abbrev CS:Ty:=.pair ti (.pair ti BW)
abbrev AB:Ty:=.pair (.sl Ai) (.pair (.sl ti) (.sl (.sl ti)))
abbrev A9:Ty:=.pair .str (.pair ti (.pair ti (.pair ti (.pair ti (.pair ti (.pair .bool .str))))))
abbrev A5:Ty:=.pair (.sl (.pair .str ti)) (.pair (.sl BW) (.pair (.sl (.pair ti (.pair ti ti))) (.pair ti ti)))
abbrev An:Ty:=.pair ti (.pair ti (.pair ti (.pair ti (.pair ti (.pair (.sl ti) (.pair (.sl (.pair ti ti)) (.pair A3 (.pair .str (.sl (.int .u8))))))))))
abbrev Ae:Ty:=.pair (.sl ti) (.pair Cx (.pair AK (.pair ti (.pair (.sl ti) ti))))
abbrev DO:Ty:=.pair (.sl A9) (.pair (.sl ti) CS)
abbrev AU:Ty:=.pair .str (.pair (.sl A9) (.pair CS (.sl (.pair ti (.pair ti ti)))))
abbrev AO:Ty:=.pair (.sl A9) (.pair (.sl (.sl ti)) (.pair (.sl A3) (.pair .bool (.pair Ae .bool))))
abbrev AP:Ty:=.pair ti (.pair (.sl Aj) (.pair AK (.pair (.sl Ai) (.pair AU (.pair ti ti)))))
abbrev li:Ty:=.sl ti
abbrev q {α:Type} (c:Bool) (a b:α):α:=cond c a b
abbrev nx {α β:Type} (a:α):Option (Al α β):=some (.next a)
abbrev dn {α β:Type} (b:β):Option (Al α β):=some (.done b)
abbrev dx {α β A:Type} (a:α):Option (Al A (Al α β)):=some (.done (.next a))
abbrev ib {α β:Type} (l:List α) (i:Int) (k:α→Option β):Option β:=(idx l i).bind k
abbrev N {α β:Type}:α→Option β:=λ_=>none
abbrev a0 (t:Ty):It:=.slot 0 (.d t)
abbrev a1 (t:Ty):It:=.slot 1 (.d t)
abbrev a2 (t:Ty):It:=.slot 2 (.d t)
abbrev a3 (t:Ty):It:=.slot 3 (.d t)
abbrev a4 (t:Ty):It:=.slot 4 (.d t)
abbrev a5 (t:Ty):It:=.slot 5 (.d t)
abbrev r0 (t:Ty):It:=.slot BD (.d t)
abbrev r1 (t:Ty):It:=.slot (BD+1) (.d t)
abbrev r2 (t:Ty):It:=.slot (BD+2) (.d t)
abbrev r3 (t:Ty):It:=.slot (BD+3) (.d t)
abbrev o0 (t:Ty) (T:TypeId):It:=.slot BD (.own t T)
abbrev o1 (t:Ty) (T:TypeId):It:=.slot (BD+1) (.own t T)
abbrev zs (n:Nat) (t:Ty):It:=.slot n (.d t)
abbrev zc (n m:Nat) (t:Ty):It:=.cell n m (.d t)
abbrev cW:List It:=[zc 0 0 A5,zc 0 5 AO,zc 0 19 An,zc 0 31 AP]
abbrev sp (g n:Nat) (i o:List It) (F:Ay i→Option (Ay o)):Nat×Be:=(g,⟨n,[],[],i,o,false,F⟩)
abbrev sq (g n:Nat) (i o:List It) (F:Ay i→Option (Ay o)):Nat×Be:=(g,⟨n,[],[],i,o,true,F⟩)
abbrev T10:=((List A6)×List A6)→Option Bool
def B10 (L:Lp):T10:=λx=>
 q ((ln x.1)!=(ln x.2)) (some false)<|L.run (λa:Int=>q (a<ln x.1) (ib x.1 a λb=>ib x.2 a λc=>q (!(q (b.1==c.1) (q (b.2.1==c.2.1) (q (b.2.2.1==c.2.2.1) (q (b.2.2.2.1==c.2.2.2.1) (q (b.2.2.2.2.1==c.2.2.2.2.1) (q (b.2.2.2.2.2.1==c.2.2.2.2.2.1) (q (b.2.2.2.2.2.2.1==c.2.2.2.2.2.2.1) (b.2.2.2.2.2.2.2==c.2.2.2.2.2.2.2)<|false)<|false)<|false)<|false)<|false)<|false)<|false)) (dn false)<|nx (A1 (a+1)))<|dn true) 0
def F10:T10:=B10 std
def S10 (F:T10):=sq 10 2 [a0 (.sl A9),a1 (.sl A9)] [r0 .bool] F
abbrev T28:=((List Int)×List Int)→Option Bool
def B28 (L:Lp):T28:=λx=>
 q ((ln x.1)!=(ln x.2)) (some false)<|L.run (λa:Int=>q (a<ln x.1) (ib x.1 a λb=>ib x.2 a λc=>q (b != c) (dn false)<|nx (A1 (a+1)))<|dn true) 0
def F28:T28:=B28 std
def S28 (F:T28):=sq 28 2 [a0 li,a1 li] [r0 .bool] F
abbrev T11:=((List (List Int))×List (List Int))→Option Bool
def B11 (L:Lp) (a:T28):T11:=λx=>
 q ((ln x.1)!=(ln x.2)) (some false)<|L.run (λb:Int=>q (b<ln x.1) (ib x.1 b λc=>ib x.2 b λd=>(a (c,d)).bind λe=>q (!e) (dn false)<|nx (A1 (b+1)))<|dn true) 0
def F11:T11:=B11 std F28
def S11 (F:T11):=sq 11 2 [a0 (.sl li),a1 (.sl li)] [r0 .bool] F
abbrev T29:=(((List UInt8)×Int)×(List Int)×List Int)→Option Int
def B29 (L:Lp):T29:=λx=>
 L.run (λa:Int×Int=>q (a.2<ln x.2.2) (ib x.2.2 a.2 λb=>ib x.2.1 b λc=>nx (A1 (a.1-c),A1 (a.2+1)))<|dn a.1) (x.1.2,0)
def z6:T29:=B29 std
def S29 (F:T29):=sq 29 3 [a0 (.pair .str ti),a1 li,a2 li] [r0 ti] F
abbrev T12:=((List ((List UInt8)×Int))×(List Int)×List (List Int))→Option Bool
def B12 (L:Lp) (a:T29):T12:=λx=>
 q ((ln x.2.2)!=(ln x.1)) (some false)<|q (ln x.2.2>24) (some false)<|q (ln x.2.1>192) (some false)<|(L.run (λb:Int=>q (b<ln x.2.1) (ib x.2.1 b λc=>q (c<1) (dn (.done false))<|q (c>400) (dn (.done false))<|nx (A1 (b+1)))<|dx ()) 0).bind (AF λd:PUnit=>q (Dh (ln x.2.1)) (L.run (λe:Int×List Bool=>q (e.1<ln x.2.2) (ib x.2.2 e.1 λf=>(L.run (λg:Int×List Bool=>q (g.1<ln f) (ib f g.1 λh=>q (h<0) (dn (.done (.done false)))<|q (h≥ln x.2.1) (dn (.done (.done false)))<|ib g.2 h λi=>q (A7 g.2 h i) (dn (.done (.done false)))<|ib g.2 h λj=>nx (A1 (g.1+1),List.set g.2 (Int.toNat h) true))<|dx g.2) (0,e.2)).bind (AF λk:List Bool=>ib x.1 e.1 λl=>q (l.2<0) (dn false)<|ib x.1 e.1 λm=>q (m.2>100000) (dn false)<|ib x.1 e.1 λn=>(a (n,x.2.1,f)).bind λo=>q (o<0) (dn false)<|nx (A1 (e.1+1),k)))<|dn true) (0,List.replicate (Int.toNat (ln x.2.1)) false))<|none)
def F12:T12:=B12 std z6
def S12 (F:T12):=sq 12 3 [a0 (.sl (.pair .str ti)),a1 li,a2 (.sl li)] [r0 .bool] F
abbrev T13:=Unit→Option Bool
def F13:T13:=λ_=>some true
def S13 (F:T13):Be:=⟨0,[],[],[],[r0 .bool],true,F⟩
abbrev UR:=(Int×(List Int)×Int)→Option (Int×(List Int)×Int)
def B15 (L:Lp):UR:=λx=>
 q (ln x.2.1>0) (q ((ln x.2.1)!=0) (ib x.2.1 (Int.tmod x.2.2 (ln x.2.1)) λa=>q ((ln x.2.1)!=0) (q (x.1 != 0) (q (Int.tmod (A1 (a+(A1 ((A1 (Int.tdiv x.2.2 (ln x.2.1)))*7919)))) x.1<0) (some (A1 ((Int.tmod (A1 (a+(A1 ((A1 (Int.tdiv x.2.2 (ln x.2.1)))*7919)))) x.1)+x.1),x.2.1,A1 (x.2.2+1)))<|some (Int.tmod (A1 (a+(A1 ((A1 (Int.tdiv x.2.2 (ln x.2.1)))*7919)))) x.1,x.2.1,A1 (x.2.2+1)))<|none)<|none)<|none)<|q (x.1 != 0) (q (Int.tmod 0 x.1<0) (some (A1 ((Int.tmod 0 x.1)+x.1),x.2.1,A1 (x.2.2+1)))<|some (Int.tmod 0 x.1,x.2.1,A1 (x.2.2+1)))<|none
def U5:UR:=B15 std
def W3 (F:UR):Nat×Be:=⟨15,2,[2],[(0,.ptr 0)],[a1 ti,zc 0 0 li,zc 0 1 ti],[r0 ti,zc 0 0 li,zc 0 1 ti],false,F⟩
abbrev js:=((List Int)×(List Int)×Int)→Option (Int×(List Int)×Int)
def B14 (L:Lp) (a:UR):js:=λx=>
 (a (ln x.1,x.2)).bind λb=>ib x.1 b.1 λc=>some (c,b.2)
def iz:js:=B14 std U5
def qs (F:js):Nat×Be:=⟨14,2,[2],[(0,.ptr 0)],[a1 li,zc 0 0 li,zc 0 1 ti],[r0 ti,zc 0 0 li,zc 0 1 ti],false,F⟩
abbrev T16:=Int→Option (List UInt8)
def B16 (L:Lp):T16:=λx=>
 some (E5 ([112,IntKind.u8.wrap (A1 (48+(Int.tmod (A1 (Int.tdiv x 10)) 10))),IntKind.u8.wrap (A1 (48+(Int.tmod x 10)))]))
def F16:T16:=B16 std
def S16 (F:T16):=sq 16 1 [a0 ti] [r0 .str] F
abbrev T17:=((List Int)×Int)→Option ((List (Int×Int×Int))×(List Int)×Int)
def B17 (L:Lp) (a:js) (b:UR):T17:=λx=>
 (b (5,x)).bind λc=>L.run (λd:(List (Int×Int×Int))×Int×AC=>q (d.2.1>0) ((a ([60,80,100,120,200],d.2.2.2,d.2.2.1)).bind λe=>(a ([0,50,100,250,500],e.2)).bind λf=>(a ([0,10,30,50,65,100],f.2)).bind λg=>q (room d.1 ([(e.1,f.1,g.1)])) (nx (d.1++([(e.1,f.1,g.1)]),A1 (d.2.1-1),g.2.2,g.2.1))<|none)<|dn (d.1,d.2.2.2,d.2.2.1)) ([],c.1,c.2.2,c.2.1)
def F17:T17:=B17 std iz U5
def S17 (F:T17):Nat×Be:=⟨17,1,[2],[(0,.ptr 0)],[zc 0 0 li,zc 0 1 ti],[r0 (.sl (.pair ti (.pair ti ti))),zc 0 0 li,zc 0 1 ti],false,F⟩
abbrev T32:=(Int×(List Int)×Int)→Option (Ba×(List Int)×Int)
def B32 (L:Lp) (a:js) (b:UR):T32:=λx=>
 (b (9,x.2)).bind λc=>q ((A1 (1+c.1))==1) ((a ([0,262,700,1500,10000],c.2)).bind λd=>some ((x.1,A1 (1+c.1),d.1,0,0),d.2))<|q ((A1 (1+c.1))==2) ((a ([3,8,16,40],c.2)).bind λe=>some ((x.1,A1 (1+c.1),e.1,0,0),e.2))<|q ((A1 (1+c.1))==3) ((a ([400,1600,4000,20000],c.2)).bind λf=>some ((x.1,A1 (1+c.1),f.1,0,0),f.2))<|q ((A1 (1+c.1))==4) ((a ([0,30,50,80],c.2)).bind λg=>some ((x.1,A1 (1+c.1),g.1,0,0),g.2))<|q ((A1 (1+c.1))==5) ((a ([1,3,9],c.2)).bind λh=>(a ([0,1,3],h.2)).bind λi=>(b (4,i.2)).bind λj=>some ((x.1,A1 (1+c.1),h.1,i.1,j.1),j.2))<|q ((A1 (1+c.1))==6) ((a ([0,1,3],c.2)).bind λk=>(b (4,k.2)).bind λl=>some ((x.1,A1 (1+c.1),k.1,l.1,0),l.2))<|q ((A1 (1+c.1))==7) ((b (5,c.2)).bind λm=>(b (4,m.2)).bind λn=>some ((x.1,A1 (1+c.1),m.1,n.1,0),n.2))<|q ((A1 (1+c.1))==8) ((a ([50,200,500],c.2)).bind λo=>some ((x.1,A1 (1+c.1),o.1,0,0),o.2))<|(a ([100,400],c.2)).bind λp=>(a ([0,800,3000],p.2)).bind λr=>some ((x.1,A1 (1+c.1),p.1,r.1,0),r.2)
def F32:T32:=B32 std iz U5
def S32 (F:T32):Nat×Be:=⟨32,2,[2],[(0,.ptr 0)],[a1 ti,zc 0 0 li,zc 0 1 ti],[r0 BW,zc 0 0 li,zc 0 1 ti],false,F⟩
abbrev T18:=(Int×(List Int)×Int)→Option ((List Ba)×(List Int)×Int)
def B18 (L:Lp) (a:UR) (b:T32):T18:=λx=>
 (a (A1 (x.1+1),x.2)).bind λc=>L.run (λd:(List Ba)×Int×AC=>q (d.2.1>0) ((a (9,d.2.2.2,d.2.2.1)).bind λe=>(b (A1 ((A1 ((A1 (10*(ln d.1)))+1))+e.1),e.2)).bind λf=>q (room d.1 ([f.1])) (nx (d.1++([f.1]),A1 (d.2.1-1),f.2.2,f.2.1))<|none)<|dn (d.1,d.2.2.2,d.2.2.1)) ([],c.1,c.2.2,c.2.1)
def F18:T18:=B18 std U5 F32
def S18 (F:T18):Nat×Be:=⟨18,2,[2],[(0,.ptr 0)],[a1 ti,zc 0 0 li,zc 0 1 ti],[o0 BW 112,zc 0 0 li,zc 0 1 ti],false,F⟩
abbrev T5:=(Bool×(List Int)×Int)→Option (A2×(List Int)×Int)
def B5 (L:Lp) (a:js) (b:UR) (c:T16) (d:T17) (e:T18):T5:=λx=>
 (a ([60,80,100],x.2)).bind λf=>(a ([0,50,100],f.2)).bind λg=>(a ([0,0,10,40],g.2)).bind λh=>((b (5,h.2)).bind λi=>L.run (λj:Int×(List ((List UInt8)×Int))×AC=>q (j.1>0) ((c (ln j.2.1)).bind λk=>(a ([500,1500,3000,8000,100000],j.2.2.2,j.2.2.1)).bind λl=>q (room j.2.1 ([(k,l.1)])) (nx (A1 (j.1-1),j.2.1++([(k,l.1)]),l.2.2,l.2.1))<|none)<|dx (j.2.2.2,j.2.2.1,j.2.1)) (A1 (4+i.1),[],i.2.2,i.2.1)).bind (AF λm:(List Int)×Int×List ((List UInt8)×Int)=>(d (m.1,m.2.1)).bind λn=>q (room ([(200,500,h.1)]) n.1) (q (!x.1) ((e (3,n.2)).bind λo=>some ((m.2.2,o.1,([(200,500,h.1)])++n.1,f.1,g.1),o.2))<|(b (3,n.2)).bind λp=>q (p.1==0) ((e (3,p.2)).bind λr=>some ((m.2.2,r.1,([(200,500,h.1)])++n.1,f.1,g.1),r.2))<|some ((m.2.2,[],([(200,500,h.1)])++n.1,f.1,g.1),p.2))<|none)
def F5:T5:=B5 std iz U5 F16 F17 F18
def S5 (F:T5):Nat×Be:=⟨5,2,[2],[(0,.ptr 0)],[a1 .bool,zc 0 0 li,zc 0 1 ti],[r0 A5,zc 0 0 li,zc 0 1 ti],false,F⟩
abbrev yi:=List UInt8→Option Bool
def B61 (L:Lp):yi:=λx=>
 (L.run (λa:Int=>q (a<ln x) (ib x a λb=>q (Di b≥97) (ib x a λc=>q (Di c≤122) (nx (A1 (a+1)))<|ib x a λd=>q (Di d≥48) (ib x a λe=>q (!(Di e≤57)) (dn (.done false))<|nx (A1 (a+1)))<|dn (.done false))<|ib x a λf=>q (Di f≥48) (ib x a λg=>q (!(Di g≤57)) (dn (.done false))<|nx (A1 (a+1)))<|dn (.done false))<|dx ()) 0).bind (AF λh:PUnit=>q (ln x≥1) (some (decide (ln x≤12)))<|some false)
def rC:yi:=B61 std
def z7 (F:yi):=sq 61 1 [a0 .str] [r0 .bool] F
abbrev jt:=Ba→Option Bool
def rD (L:Lp):jt:=λx=>
 q (x.1<1) (some false)<|q (x.1>9999) (some false)<|q (x.2.1<1) (some false)<|q (x.2.1>9) (some false)<|q (x.2.2.1≥0) (q (x.2.2.1≤1000000) (q (x.2.2.2.1≥0) (q (x.2.2.2.1≤1000000) (q (x.2.2.2.2≥0) (some (decide (x.2.2.2.2≤1000000)))<|some false)<|some false)<|some false)<|some false)<|some false
def ju:jt:=rD std
def rE (F:jt):=sq 115 1 [a0 BW] [r0 .bool] F
abbrev z8:=List Ba→Option Int
def B62 (L:Lp) (a:jt):z8:=λx=>
 q (ln x>32) (some 3)<|L.run (λb:Int=>q (b<ln x) (ib x b λc=>(a c).bind λd=>q (!d) (dn 1)<|L.run (λe:Int=>q (e<b) (ib x e λf=>ib x b λg=>q (f.1==g.1) (dn (.done 8))<|nx (A1 (e+1)))<|dx (A1 (b+1))) 0)<|dn 0) 0
def za:z8:=B62 std ju
def S62 (F:z8):=sq 62 1 [a0 (.sl BW)] [r0 ti] F
abbrev zb:=(List (Int×Int×Int))→Option Bool
def B63 (L:Lp):zb:=λx=>
 q (ln x>64) (some false)<|L.run (λa:Int=>q (a<ln x) (ib x a λb=>q (b.1<1) (dn false)<|ib x a λc=>q (c.1>200) (dn false)<|ib x a λd=>q (d.2.1<0) (dn false)<|ib x a λe=>q (e.2.1>500) (dn false)<|ib x a λf=>q (f.2.2<0) (dn false)<|ib x a λg=>q (g.2.2>250) (dn false)<|nx (A1 (a+1)))<|dn true) 0
def zd:zb:=B63 std
def S63 (F:zb):=sq 63 1 [a0 (.sl (.pair ti (.pair ti ti)))] [r0 .bool] F
abbrev ze:=A2→Option Int
def B33 (L:Lp) (a:yi) (b:z8) (c:zb):ze:=λx=>
 q (ln x.1≥1) (q (ln x.1≤24) (q (x.2.2.2.1≥1) (q (x.2.2.2.1≤200) (q (x.2.2.2.2≥0) ((L.run (λd:Bool×Int=>q d.1 (q (d.2<ln x.1) (ib x.1 d.2 λe=>(a e.1).bind λf=>q f (ib x.1 d.2 λg=>q (g.2≥1) (ib x.1 d.2 λh=>L.run (λi:Bool×Int=>q (i.2<d.2) (q i.1 (ib x.1 i.2 λj=>ib x.1 d.2 λk=>nx (!(j.1==k.1),A1 (i.2+1)))<|nx (false,A1 (i.2+1)))<|dx (i.1,A1 (d.2+1))) (decide (h.2≤100000),0))<|L.run (λl:Bool×Int=>q (l.2<d.2) (q l.1 (ib x.1 l.2 λm=>ib x.1 d.2 λn=>nx (!(m.1==n.1),A1 (l.2+1)))<|nx (false,A1 (l.2+1)))<|dx (l.1,A1 (d.2+1))) (false,0))<|L.run (λo:Bool×Int=>q (o.2<d.2) (q o.1 (ib x.1 o.2 λp=>ib x.1 d.2 λr=>nx (!(p.1==r.1),A1 (o.2+1)))<|nx (false,A1 (o.2+1)))<|dx (o.1,A1 (d.2+1))) (false,0))<|dx d.1)<|dx d.1) (decide (x.2.2.2.2≤500),0)).bind (AF λs:Bool=>q (!s) (some 1)<|(b x.2.1).bind λt=>q (t != 0) (some t)<|(c x.2.2.1).bind λu=>q (!u) (some 1)<|some 0))<|(L.run (λv:Bool×Int=>q v.1 (q (v.2<ln x.1) (ib x.1 v.2 λw=>(a w.1).bind λy=>q y (ib x.1 v.2 λz=>q (z.2≥1) (ib x.1 v.2 λA=>L.run (λB:Bool×Int=>q (B.2<v.2) (q B.1 (ib x.1 B.2 λC=>ib x.1 v.2 λD=>nx (!(C.1==D.1),A1 (B.2+1)))<|nx (false,A1 (B.2+1)))<|dx (B.1,A1 (v.2+1))) (decide (A.2≤100000),0))<|L.run (λE:Bool×Int=>q (E.2<v.2) (q E.1 (ib x.1 E.2 λG=>ib x.1 v.2 λH=>nx (!(G.1==H.1),A1 (E.2+1)))<|nx (false,A1 (E.2+1)))<|dx (E.1,A1 (v.2+1))) (false,0))<|L.run (λI:Bool×Int=>q (I.2<v.2) (q I.1 (ib x.1 I.2 λJ=>ib x.1 v.2 λK=>nx (!(J.1==K.1),A1 (I.2+1)))<|nx (false,A1 (I.2+1)))<|dx (I.1,A1 (v.2+1))) (false,0))<|dx v.1)<|dx v.1) (false,0)).bind (AF λM:Bool=>q (!M) (some 1)<|(b x.2.1).bind λO=>q (O != 0) (some O)<|(c x.2.2.1).bind λP=>q (!P) (some 1)<|some 0))<|(L.run (λQ:Bool×Int=>q Q.1 (q (Q.2<ln x.1) (ib x.1 Q.2 λR=>(a R.1).bind λU=>q U (ib x.1 Q.2 λV=>q (V.2≥1) (ib x.1 Q.2 λW=>L.run (λX:Bool×Int=>q (X.2<Q.2) (q X.1 (ib x.1 X.2 λY=>ib x.1 Q.2 λZ=>nx (!(Y.1==Z.1),A1 (X.2+1)))<|nx (false,A1 (X.2+1)))<|dx (X.1,A1 (Q.2+1))) (decide (W.2≤100000),0))<|L.run (λaa:Bool×Int=>q (aa.2<Q.2) (q aa.1 (ib x.1 aa.2 λab=>ib x.1 Q.2 λac=>nx (!(ab.1==ac.1),A1 (aa.2+1)))<|nx (false,A1 (aa.2+1)))<|dx (aa.1,A1 (Q.2+1))) (false,0))<|L.run (λad:Bool×Int=>q (ad.2<Q.2) (q ad.1 (ib x.1 ad.2 λae=>ib x.1 Q.2 λaf=>nx (!(ae.1==af.1),A1 (ad.2+1)))<|nx (false,A1 (ad.2+1)))<|dx (ad.1,A1 (Q.2+1))) (false,0))<|dx Q.1)<|dx Q.1) (false,0)).bind (AF λag:Bool=>q (!ag) (some 1)<|(b x.2.1).bind λah=>q (ah != 0) (some ah)<|(c x.2.2.1).bind λai=>q (!ai) (some 1)<|some 0))<|(L.run (λaj:Bool×Int=>q aj.1 (q (aj.2<ln x.1) (ib x.1 aj.2 λak=>(a ak.1).bind λam=>q am (ib x.1 aj.2 λao=>q (ao.2≥1) (ib x.1 aj.2 λap=>L.run (λaq:Bool×Int=>q (aq.2<aj.2) (q aq.1 (ib x.1 aq.2 λar=>ib x.1 aj.2 λau=>nx (!(ar.1==au.1),A1 (aq.2+1)))<|nx (false,A1 (aq.2+1)))<|dx (aq.1,A1 (aj.2+1))) (decide (ap.2≤100000),0))<|L.run (λav:Bool×Int=>q (av.2<aj.2) (q av.1 (ib x.1 av.2 λaw=>ib x.1 aj.2 λay=>nx (!(aw.1==ay.1),A1 (av.2+1)))<|nx (false,A1 (av.2+1)))<|dx (av.1,A1 (aj.2+1))) (false,0))<|L.run (λaz:Bool×Int=>q (az.2<aj.2) (q az.1 (ib x.1 az.2 λa8=>ib x.1 aj.2 λa9=>nx (!(a8.1==a9.1),A1 (az.2+1)))<|nx (false,A1 (az.2+1)))<|dx (az.1,A1 (aj.2+1))) (false,0))<|dx aj.1)<|dx aj.1) (false,0)).bind (AF λba:Bool=>q (!ba) (some 1)<|(b x.2.1).bind λbb=>q (bb != 0) (some bb)<|(c x.2.2.1).bind λbc=>q (!bc) (some 1)<|some 0))<|(L.run (λbd:Bool×Int=>q bd.1 (q (bd.2<ln x.1) (ib x.1 bd.2 λbf=>(a bf.1).bind λbg=>q bg (ib x.1 bd.2 λbh=>q (bh.2≥1) (ib x.1 bd.2 λbi=>L.run (λbj:Bool×Int=>q (bj.2<bd.2) (q bj.1 (ib x.1 bj.2 λbk=>ib x.1 bd.2 λbm=>nx (!(bk.1==bm.1),A1 (bj.2+1)))<|nx (false,A1 (bj.2+1)))<|dx (bj.1,A1 (bd.2+1))) (decide (bi.2≤100000),0))<|L.run (λbo:Bool×Int=>q (bo.2<bd.2) (q bo.1 (ib x.1 bo.2 λbp=>ib x.1 bd.2 λbq=>nx (!(bp.1==bq.1),A1 (bo.2+1)))<|nx (false,A1 (bo.2+1)))<|dx (bo.1,A1 (bd.2+1))) (false,0))<|L.run (λbr:Bool×Int=>q (br.2<bd.2) (q br.1 (ib x.1 br.2 λbs=>ib x.1 bd.2 λbu=>nx (!(bs.1==bu.1),A1 (br.2+1)))<|nx (false,A1 (br.2+1)))<|dx (br.1,A1 (bd.2+1))) (false,0))<|dx bd.1)<|dx bd.1) (false,0)).bind (AF λbv:Bool=>q (!bv) (some 1)<|(b x.2.1).bind λbw=>q (bw != 0) (some bw)<|(c x.2.2.1).bind λbz=>q (!bz) (some 1)<|some 0))<|(L.run (λb0:Bool×Int=>q b0.1 (q (b0.2<ln x.1) (ib x.1 b0.2 λb1=>(a b1.1).bind λb2=>q b2 (ib x.1 b0.2 λb3=>q (b3.2≥1) (ib x.1 b0.2 λb4=>L.run (λb5:Bool×Int=>q (b5.2<b0.2) (q b5.1 (ib x.1 b5.2 λb6=>ib x.1 b0.2 λb7=>nx (!(b6.1==b7.1),A1 (b5.2+1)))<|nx (false,A1 (b5.2+1)))<|dx (b5.1,A1 (b0.2+1))) (decide (b4.2≤100000),0))<|L.run (λb8:Bool×Int=>q (b8.2<b0.2) (q b8.1 (ib x.1 b8.2 λb9=>ib x.1 b0.2 λca=>nx (!(b9.1==ca.1),A1 (b8.2+1)))<|nx (false,A1 (b8.2+1)))<|dx (b8.1,A1 (b0.2+1))) (false,0))<|L.run (λcb:Bool×Int=>q (cb.2<b0.2) (q cb.1 (ib x.1 cb.2 λcc=>ib x.1 b0.2 λce=>nx (!(cc.1==ce.1),A1 (cb.2+1)))<|nx (false,A1 (cb.2+1)))<|dx (cb.1,A1 (b0.2+1))) (false,0))<|dx b0.1)<|dx b0.1) (false,0)).bind (AF λcf:Bool=>q (!cf) (some 1)<|(b x.2.1).bind λcg=>q (cg != 0) (some cg)<|(c x.2.2.1).bind λch=>q (!ch) (some 1)<|some 0)
def zf:ze:=B33 std rC za zd
def S33 (F:ze):=sq 33 1 [a0 A5] [r0 ti] F
abbrev T19:=A2→Option (AH×Int)
def B19 (L:Lp) (a:ze):T19:=λx=>
 (a x).bind λb=>q (b != 0) (some (([],[],[],false,([],([],0),((0,[]),[]),0,[],0),false),b))<|L.run (λc:Int×List (List Int)=>q (c.1<ln x.1) (q (room c.2 [[]]) (nx (A1 (c.1+1),c.2++[[]]))<|none)<|dn (([],c.2,[],false,([],([],0),((0,[]),[]),0,[],0),false),0)) (0,[])
def F19:T19:=B19 std zf
def S19 (F:T19):=sp 19 1 [a0 A5] [r0 AO,r1 ti] F
abbrev jv:=(Int×(List Int)×Int)→Option ((List UInt8)×(List Int)×Int)
def rF (L:Lp) (a:UR):jv:=λx=>
 q (Dh x.1) (L.run (λb:Int×Int×(List Int)×List Int=>q (b.1<x.1) ((a (10,b.2.2.1,b.2.1)).bind λc=>ib b.2.2.2 b.1 λd=>nx (A1 (b.1+1),c.2.2,c.2.1,List.set b.2.2.2 (Int.toNat b.1) (IntKind.u8.wrap (A1 (48+c.1)))))<|dn (E5 b.2.2.2,b.2.2.1,b.2.1)) (0,x.2.2,x.2.1,List.replicate (Int.toNat x.1) 0))<|none
def jw:jv:=rF std U5
def rG (F:jv):Nat×Be:=⟨112,2,[2],[(0,.ptr 0)],[a1 ti,zc 0 0 li,zc 0 1 ti],[r0 .str,zc 0 0 li,zc 0 1 ti],false,F⟩
abbrev cM:=((List UInt8)×Int)→Option Bool
def rH (L:Lp):cM:=λx=>
 q ((ln x.1)!=x.2) (some false)<|L.run (λa:Int=>q (a<x.2) (ib x.1 a λb=>q (Di b<48) (dn false)<|ib x.1 a λc=>q (Di c>57) (dn false)<|nx (A1 (a+1)))<|dn true) 0
def cN:cM:=rH std
def jx (F:cM):=sq 183 2 [a0 .str,a1 ti] [r0 .bool] F
abbrev cO:=((List UInt8)×Int)→Option Int
def rI (L:Lp):cO:=λx=>
 L.run (λa:Int×Int=>q (a.2<x.2) (ib x.1 a.2 λb=>q ((Int.tmod a.2 2)==0) (q (A1 ((A1 (IntKind.u8.wrap ((Di b)-48)))*2)>9) (nx (A1 (a.1+(A1 ((A1 ((A1 (IntKind.u8.wrap ((Di b)-48)))*2))-9))),A1 (a.2+1)))<|nx (A1 (a.1+(A1 ((A1 (IntKind.u8.wrap ((Di b)-48)))*2))),A1 (a.2+1)))<|nx (A1 (a.1+(A1 (IntKind.u8.wrap ((Di b)-48)))),A1 (a.2+1)))<|dn a.1) (0,0)
def cP:cO:=rI std
def jy (F:cO):=sq 184 2 [a0 .str,a1 ti] [r0 ti] F
abbrev jz:=List UInt8→Option (Int×Int)
def rJ (L:Lp) (a:cM) (b:cO):jz:=λx=>
 (a (x,11)).bind λc=>q (!c) (some (0,11))<|(b (x,11)).bind λd=>some (Int.tmod (A1 (10-(Int.tmod d 10))) 10,0)
def cQ:jz:=rJ std cN cP
def rK (F:jz):=sq 113 1 [a0 .str] [r0 ti,r1 ti] F
abbrev T56:=(Int×(List Int)×Int)→Option ((List UInt8)×(List Int)×Int)
def B56 (L:Lp) (a:jv) (b:jz):T56:=λx=>
 (a (11,x.2)).bind λc=>q (iV c.1) (ib (ofB c.1) 8 λd=>ib (List.set (ofB c.1) (Int.toNat 8) (IntKind.u8.wrap (A1 (48+(Int.tmod (A1 (Int.tdiv x.1 100)) 10))))) 9 λe=>ib (List.set (List.set (ofB c.1) (Int.toNat 8) (IntKind.u8.wrap (A1 (48+(Int.tmod (A1 (Int.tdiv x.1 100)) 10))))) (Int.toNat 9) (IntKind.u8.wrap (A1 (48+(Int.tmod (A1 (Int.tdiv x.1 10)) 10))))) 10 λf=>(b (E5 (List.set (List.set (List.set (ofB c.1) (Int.toNat 8) (IntKind.u8.wrap (A1 (48+(Int.tmod (A1 (Int.tdiv x.1 100)) 10))))) (Int.toNat 9) (IntKind.u8.wrap (A1 (48+(Int.tmod (A1 (Int.tdiv x.1 10)) 10))))) (Int.toNat 10) (IntKind.u8.wrap (A1 (48+(Int.tmod x.1 10))))))).bind λg=>q (room (E5 (List.set (List.set (List.set (ofB c.1) (Int.toNat 8) (IntKind.u8.wrap (A1 (48+(Int.tmod (A1 (Int.tdiv x.1 100)) 10))))) (Int.toNat 9) (IntKind.u8.wrap (A1 (48+(Int.tmod (A1 (Int.tdiv x.1 10)) 10))))) (Int.toNat 10) (IntKind.u8.wrap (A1 (48+(Int.tmod x.1 10)))))) (E5 ([IntKind.u8.wrap (A1 (48+g.1))]))) (some ((E5 (List.set (List.set (List.set (ofB c.1) (Int.toNat 8) (IntKind.u8.wrap (A1 (48+(Int.tmod (A1 (Int.tdiv x.1 100)) 10))))) (Int.toNat 9) (IntKind.u8.wrap (A1 (48+(Int.tmod (A1 (Int.tdiv x.1 10)) 10))))) (Int.toNat 10) (IntKind.u8.wrap (A1 (48+(Int.tmod x.1 10))))))++(E5 ([IntKind.u8.wrap (A1 (48+g.1))])),c.2))<|none)<|none
def F56:T56:=B56 std jw cQ
def S56 (F:T56):Nat×Be:=⟨56,2,[2],[(0,.ptr 0)],[a1 ti,zc 0 0 li,zc 0 1 ti],[r0 .str,zc 0 0 li,zc 0 1 ti],false,F⟩
abbrev T57:=((List Int)×Int)→Option ((List UInt8)×(List Int)×Int)
def B57 (L:Lp) (a:UR):T57:=λx=>
 (a (10,x)).bind λb=>ib ([[97],[98],[99],[100],[101],[110,111,114,116,104],[115,111,117,116,104],[112,111,114,116,49],[120,57],[97,98,99,100,101,102,103,104,105,106,107,108]]) b.1 λc=>some (A7 ([[97],[98],[99],[100],[101],[110,111,114,116,104],[115,111,117,116,104],[112,111,114,116,49],[120,57],[97,98,99,100,101,102,103,104,105,106,107,108]]) b.1 c,b.2)
def F57:T57:=B57 std U5
def S57 (F:T57):Nat×Be:=⟨57,1,[2],[(0,.ptr 0)],[zc 0 0 li,zc 0 1 ti],[r0 .str,zc 0 0 li,zc 0 1 ti],false,F⟩
abbrev T30:=(Int×(List Int)×Int)→Option (A6×(List Int)×Int)
def B30 (L:Lp) (a:js) (b:UR) (c:T56) (d:T57):T30:=λx=>
 (c x).bind λe=>(a ([80,120,142,199,262,400],e.2)).bind λf=>(a ([50,120,400,800,2000],f.2)).bind λg=>(a ([0,0,0,1,3,9],g.2)).bind λh=>(b (5,h.2)).bind λi=>(d i.2).bind λj=>(ib e.1 4 λk=>q ((Di k)==50) (nx (2,f.1))<|q ((Di k)==52) (nx (2,f.1))<|q ((Di k)==57) (nx (6,max f.1 120))<|nx (4,f.1)).bind (AF λl:Int×Int=>(b (5,j.2)).bind λm=>some ((e.1,l.2,l.1,g.1,A1 (Int.tdiv (A1 (g.1*m.1)) 4),h.1,i.1==0,j.1),m.2))
def F30:T30:=B30 std iz U5 F56 F57
def S30 (F:T30):Nat×Be:=⟨30,2,[2],[(0,.ptr 0)],[a1 ti,zc 0 0 li,zc 0 1 ti],[r0 A9,zc 0 0 li,zc 0 1 ti],false,F⟩
abbrev T34:=AH→Option (List Int)
def B34 (L:Lp):T34:=λx=>
 L.run (λa:(List Int)×(List Int)×Int=>q (a.2.2<ln x.2.1) ((L.run (λb:Bool×Int=>q (b.2<ln x.2.2.1) (q b.1 (nx (true,A1 (b.2+1)))<|ib x.2.2.1 b.2 λc=>nx (c.2.1==a.2.2,A1 (b.2+1)))<|dx b.1) (false,0)).bind (AF λd:Bool=>q (!d) (ib x.2.1 a.2.2 λe=>q ((ln e)==0) (q (room a.1 [a.2.2]) (nx (a.1++[a.2.2],a.2.1,A1 (a.2.2+1)))<|none)<|q (!d) (q (room a.2.1 [a.2.2]) (nx (a.1,a.2.1++[a.2.2],A1 (a.2.2+1)))<|none)<|nx (a.1,a.2.1,A1 (a.2.2+1)))<|q (!d) (q (room a.2.1 [a.2.2]) (nx (a.1,a.2.1++[a.2.2],A1 (a.2.2+1)))<|none)<|nx (a.1,a.2.1,A1 (a.2.2+1))))<|q (room a.1 a.2.1) (dn (a.1++a.2.1))<|none) ([],[],0)
def F34:T34:=B34 std
def S34 (F:T34):=sp 34 1 [a0 AO] [r0 li] F
abbrev jA:=List UInt8→Option Int
def rL (L:Lp) (a:cM) (b:cO):jA:=λx=>
 (a (x,12)).bind λc=>q (!c) (some 11)<|ib x 11 λd=>(b (x,11)).bind λe=>q ((Int.tmod (A1 (e+(A1 (IntKind.u8.wrap ((Di d)-48))))) 10)!=0) (some 9)<|some 0
def jB:jA:=rL std cN cP
def rM (F:jA):=sq 248 1 [a0 .str] [r0 ti] F
abbrev jC:=List UInt8→Option (Int×Int)
def rN (L:Lp) (a:jA):jC:=λx=>
 (a x).bind λb=>q (b != 0) (some (0,b))<|ib x 4 λc=>q ((Di c)==55) (some (1,0))<|q ((Di c)==56) (some (1,0))<|q ((Di c)==50) (some (2,0))<|q ((Di c)==52) (some (2,0))<|q ((Di c)==57) (some (3,0))<|some (0,0)
def jD:jC:=rN std jB
def rO (F:jC):=sq 188 1 [a0 .str] [r0 ti,r1 ti] F
abbrev jE:=A6→Option Int
def rP (L:Lp) (a:jC) (b:yi):jE:=λx=>
 (a x.1).bind λc=>q (c.2 != 0) (some c.2)<|(q (c.1==2) (nx (2,80))<|q (c.1==3) (nx (6,120))<|nx (4,80)).bind (AF λd:Int×Int=>q (x.2.2.1 != d.1) (some 1)<|q (x.2.1<d.2) (some 2)<|q (x.2.1>400) (some 2)<|q (x.2.2.2.1<50) (some 2)<|q (x.2.2.2.1>2000) (some 2)<|q (x.2.2.2.2.1<0) (some 2)<|q (x.2.2.2.2.1>x.2.2.2.1) (some 2)<|q (x.2.2.2.2.2.1<0) (some 2)<|q (x.2.2.2.2.2.1>9) (some 2)<|(b x.2.2.2.2.2.2.2).bind λe=>q (!e) (some 7)<|some 0)
def jF:jE:=rP std jD rC
def rQ (F:jE):=sq 116 1 [a0 A9] [r0 ti] F
abbrev rR:=List A6→Option Int
def B64 (L:Lp) (a:jE):rR:=λx=>
 q (ln x>96) (some 3)<|L.run (λb:Int=>q (b<ln x) (ib x b λc=>(a c).bind λd=>q (d != 0) (dn d)<|L.run (λe:Int=>q (e<b) (ib x e λf=>ib x b λg=>q (f.1==g.1) (dn (.done 8))<|nx (A1 (e+1)))<|dx (A1 (b+1))) 0)<|dn 0) 0
def rS:rR:=B64 std jF
def yj (F:rR):=sq 64 1 [a0 (.sl A9)] [r0 ti] F
abbrev zg:=List Int→Option Int
def B65 (L:Lp):zg:=λx=>
 L.run (λa:Int×Int=>q (a.2<ln x) (ib x a.2 λb=>nx (Int.tmod (A1 (a.1+(A1 ((Int.tmod (A1 (a.2+1)) 65521)*(A1 b))))) 65521,A1 (a.2+1)))<|dn a.1) (0,0)
def zh:zg:=B65 std
def S65 (F:zg):=sq 65 1 [a0 (.sl (.int .u8))] [r0 ti] F
abbrev T35:=List A6→Option ((List Int)×Int)
def B35 (L:Lp) (a:rR) (b:zg):T35:=λx=>
 (a x).bind λc=>q (c != 0) (some ([],c))<|(L.run (λd:(List Int)×Int=>q (d.2<ln x) (ib x d.2 λe=>(L.run (λf:(List Int)×Int=>q (f.2<12) (ib e.1 f.2 λg=>ib e.1 (A1 (f.2+1)) λh=>q (room f.1 ([IntKind.u8.wrap ((IntKind.u8.wrap ((IntKind.u8.wrap ((IntKind.u8.wrap ((Di g)-48))*16))+(Di h)))-48)])) (nx (f.1++([IntKind.u8.wrap ((IntKind.u8.wrap ((IntKind.u8.wrap ((IntKind.u8.wrap ((Di g)-48))*16))+(Di h)))-48)]),A1 (f.2+2)))<|none)<|dx f.1) (d.1,0)).bind (AF λi:List Int=>(q e.2.2.2.2.2.2.1 (nx (IntKind.u8.wrap ((IntKind.u8.wrap e.2.2.2.2.2.1)+16)))<|nx (IntKind.u8.wrap e.2.2.2.2.2.1)).bind (AF λj:Int=>q (room i ([IntKind.u8.wrap (A1 (Int.tdiv e.2.1 256)),IntKind.u8.wrap (Int.tmod e.2.1 256),IntKind.u8.wrap e.2.2.1,IntKind.u8.wrap (A1 (Int.tdiv e.2.2.2.1 256)),IntKind.u8.wrap (Int.tmod e.2.2.2.1 256),IntKind.u8.wrap (A1 (Int.tdiv e.2.2.2.2.1 256)),IntKind.u8.wrap (Int.tmod e.2.2.2.2.1 256),j,IntKind.u8.wrap (ln e.2.2.2.2.2.2.2)])) (q (room (i++([IntKind.u8.wrap (A1 (Int.tdiv e.2.1 256)),IntKind.u8.wrap (Int.tmod e.2.1 256),IntKind.u8.wrap e.2.2.1,IntKind.u8.wrap (A1 (Int.tdiv e.2.2.2.1 256)),IntKind.u8.wrap (Int.tmod e.2.2.2.1 256),IntKind.u8.wrap (A1 (Int.tdiv e.2.2.2.2.1 256)),IntKind.u8.wrap (Int.tmod e.2.2.2.2.1 256),j,IntKind.u8.wrap (ln e.2.2.2.2.2.2.2)])) (ofB e.2.2.2.2.2.2.2)) (nx ((i++([IntKind.u8.wrap (A1 (Int.tdiv e.2.1 256)),IntKind.u8.wrap (Int.tmod e.2.1 256),IntKind.u8.wrap e.2.2.1,IntKind.u8.wrap (A1 (Int.tdiv e.2.2.2.1 256)),IntKind.u8.wrap (Int.tmod e.2.2.2.1 256),IntKind.u8.wrap (A1 (Int.tdiv e.2.2.2.2.1 256)),IntKind.u8.wrap (Int.tmod e.2.2.2.2.1 256),j,IntKind.u8.wrap (ln e.2.2.2.2.2.2.2)]))++(ofB e.2.2.2.2.2.2.2),A1 (d.2+1)))<|none)<|none)))<|dx d.1) ([IntKind.u8.wrap (ln x)],0)).bind (AF λk:List Int=>(b k).bind λl=>q (room k ([IntKind.u8.wrap (A1 (Int.tdiv l 256)),IntKind.u8.wrap (Int.tmod l 256)])) (some (k++([IntKind.u8.wrap (A1 (Int.tdiv l 256)),IntKind.u8.wrap (Int.tmod l 256)]),0))<|none)
def F35:T35:=B35 std rS zh
def S35 (F:T35):=sp 35 1 [a0 (.sl A9)] [o0 (.int .u8) 5,r1 ti] F
abbrev T66:=((List UInt8)×(List Int)×Int)→Option ((List UInt8)×(List Int)×Int)
def B66 (L:Lp) (a:UR):T66:=λx=>
 q (x.1==[]) ((a (256,x.2)).bind λb=>some (E5 ([IntKind.u8.wrap b.1]),b.2))<|(a (ln x.1,x.2)).bind λc=>(a (4,c.2)).bind λd=>q (d.1==0) ((sub x.1 0 c.1).bind λe=>(sub x.1 (A1 (c.1+1)) (ln x.1)).bind λf=>q (room e f) (some (e++f,d.2))<|none)<|q (d.1==1) ((sub x.1 0 c.1).bind λg=>(sub x.1 c.1 (ln x.1)).bind λh=>(a (256,d.2)).bind λi=>q (room g (E5 ([IntKind.u8.wrap i.1]))) (q (room (g++(E5 ([IntKind.u8.wrap i.1]))) h) (some ((g++(E5 ([IntKind.u8.wrap i.1])))++h,i.2))<|none)<|none)<|q (d.1==2) ((sub x.1 0 c.1).bind λj=>(sub x.1 (A1 (c.1+1)) (ln x.1)).bind λk=>(a (10,d.2)).bind λl=>q (room j (E5 ([IntKind.u8.wrap (A1 (48+l.1))]))) (q (room (j++(E5 ([IntKind.u8.wrap (A1 (48+l.1))]))) k) (some ((j++(E5 ([IntKind.u8.wrap (A1 (48+l.1))])))++k,l.2))<|none)<|none)<|(sub x.1 0 c.1).bind λm=>(sub x.1 (A1 (c.1+1)) (ln x.1)).bind λn=>(a (256,d.2)).bind λo=>q (room m (E5 ([IntKind.u8.wrap o.1]))) (q (room (m++(E5 ([IntKind.u8.wrap o.1]))) n) (some ((m++(E5 ([IntKind.u8.wrap o.1])))++n,o.2))<|none)<|none
def F66:T66:=B66 std U5
def S66 (F:T66):Nat×Be:=⟨66,2,[2],[(0,.ptr 0)],[a1 .str,zc 0 0 li,zc 0 1 ti],[r0 .str,zc 0 0 li,zc 0 1 ti],false,F⟩
abbrev T36:=((List Int)×(List Int)×Int)→Option ((List Int)×(List Int)×Int)
def B36 (L:Lp) (a:T66):T36:=λx=>
 (a (E5 x.1,x.2)).bind λb=>q (iV b.1) (some (ofB b.1,b.2))<|none
def F36:T36:=B36 std F66
def S36 (F:T36):Nat×Be:=⟨36,2,[2],[(0,.ptr 0)],[a1 (.sl (.int .u8)),zc 0 0 li,zc 0 1 ti],[r0 (.sl (.int .u8)),zc 0 0 li,zc 0 1 ti],false,F⟩
abbrev T37:=(A2×(List Int)×Int)→Option (A0×(List Int)×Int)
def B37 (L:Lp) (a:js) (b:UR):T37:=λx=>
 (b (4,x.2)).bind λc=>ib ([[120,49],[120,50],[120,51],[120,52]]) c.1 λd=>(b (ln x.1.1,c.2)).bind λe=>(L.run (λf:Int×(List (List UInt8))×AC=>q (f.1<4) ((b (2,f.2.2.2,f.2.2.1)).bind λg=>q (g.1==0) ((b (2,g.2)).bind λh=>ib ([[97],[98],[99],[100],[101],[102,97,114]]) (Int.tmod (A1 (f.1+h.1)) 4) λi=>q (room f.2.1 [i]) (nx (A1 (f.1+1),f.2.1++[i],h.2.2,h.2.1))<|none)<|nx (A1 (f.1+1),f.2.1,g.2.2,g.2.1))<|dx (f.2.2.2,f.2.2.1,f.2.1)) (0,[],e.2.2,e.2.1)).bind (AF λj:(List Int)×Int×List (List UInt8)=>(b (9,j.1,j.2.1)).bind λk=>q (k.1==0) ((a ([(-1),ln x.1.1],k.2)).bind λl=>some ((A7 ([[120,49],[120,50],[120,51],[120,52]]) c.1 d,l.1,j.2.2),l.2))<|some ((A7 ([[120,49],[120,50],[120,51],[120,52]]) c.1 d,e.1,j.2.2),k.2))
def F37:T37:=B37 std iz U5
def S37 (F:T37):Nat×Be:=⟨37,2,[2],[(0,.ptr 0)],[a1 A5,zc 0 0 li,zc 0 1 ti],[r0 A3,zc 0 0 li,zc 0 1 ti],false,F⟩
abbrev zi:=AH→Option Int
def B67 (L:Lp):zi:=λx=>
 q (x.2.2.2.2.1.2.2.2.2.2==0) (some x.2.2.2.2.1.2.2.2.1)<|ib x.2.2.2.2.1.2.2.2.2.1 (A1 (x.2.2.2.2.1.2.2.2.2.2-1)) λa=>some a
def zj:zi:=B67 std
def S67 (F:zi):=sq 67 1 [a0 AO] [r0 ti] F
abbrev jG:=((List A0)×Aa×Int×AC)→Option Int
def rT (L:Lp):jG:=λx=>
 (L.run (λa:Int=>q (a<ln x.2.2.2.2) (q (!(IntKind.u64.wrap a<0)) (q ((CF .i64 (DV .i64 x.2.2.1 (IntKind.u64.wrap a)) 1)==1) (ib x.2.2.2.2 a λb=>dn (.done b))<|nx (A1 (a+1)))<|none)<|dx ()) x.2.2.2.1).bind (AF λc:PUnit=>ib x.1 x.2.1.1 λd=>some d.2.1)
def jH:jG:=rT std
def rU (F:jG):=sq 117 5 [a0 (.sl A3),a1 Ai,a2 ti,a3 ti,a4 li] [r0 ti] F
abbrev zk:=(AH×List Int)→Option (List Int)
def B68 (L:Lp) (a:jG):zk:=λx=>
 L.run (λb:(List Int)×Int=>q (b.2<ln x.2) (L.run (λc:(List Int)×Int=>q (c.2<ln x.1.2.2.2.2.1.1) (ib x.1.2.2.2.2.1.1 c.2 λd=>ib x.2 b.2 λe=>q (d==e) (ib x.1.2.2.2.2.1.2.1.1 c.2 λf=>ib x.1.2.2.2.2.1.2.2.1.1.2 c.2 λg=>(a (x.1.2.2.1,f,g,x.1.2.2.2.2.1.2.2.2.2.2,x.1.2.2.2.2.1.2.2.2.2.1)).bind λh=>q (room c.1 [h]) (nx (c.1++[h],A1 (c.2+1)))<|none)<|nx (c.1,A1 (c.2+1)))<|dx (c.1,A1 (b.2+1))) (b.1,0))<|dn b.1) ([],0)
def zm:zk:=B68 std jH
def S68 (F:zk):=sp 68 2 [a0 AO,a1 li] [r0 li] F
abbrev T38:=AH→Option (Int×(List Int)×(List Int)×Int)
def B38 (L:Lp) (a:zi) (b:zk):T38:=λx=>
 q (!x.2.2.2.1) (some (0,[],[],16))<|q x.2.2.2.2.2 (some (0,[],[],16))<|(a x).bind λc=>ib x.2.1 c λd=>q (room [] d) ((b (x,[]++d)).bind λe=>some (c,[]++d,e,0))<|none
def F38:T38:=B38 std zj zm
def S38 (F:T38):=sp 38 1 [a0 AO] [r0 ti,r1 li,r2 li,r3 ti] F
abbrev T20:=(A2×AH×Int×(List Int)×Int)→Option (Ah×(List Int)×Int)
def B20 (L:Lp) (a:js) (b:UR) (c:T30) (d:T34) (e:T35) (f:T36) (g:T37) (h:T38):T20:=λx=>
 (d x.2.1).bind λi=>(b (7,x.2.2.2)).bind λj=>(q x.2.1.2.2.2.2.2 ((b (6,j.2)).bind λk=>q (k.1>0) (nx (5,k.2.2,k.2.1))<|q x.2.1.2.2.2.1 ((b (5,k.2)).bind λl=>q (l.1>0) (nx (4,l.2.2,l.2.1))<|nx (A1 (1+j.1),l.2.2,l.2.1))<|nx (A1 (1+j.1),k.2.2,k.2.1))<|q x.2.1.2.2.2.1 ((b (5,j.2)).bind λm=>q (m.1>0) (nx (4,m.2.2,m.2.1))<|nx (A1 (1+j.1),m.2.2,m.2.1))<|nx (A1 (1+j.1),j.2.2,j.2.1)).bind (AF λn:Int×AC=>q (n.1==1) ((b (ln x.1.1,n.2.2,n.2.1)).bind λo=>(q (ln i>0) ((b (4,o.2)).bind λp=>q (p.1>0) ((b (ln i,p.2)).bind λr=>ib i r.1 λs=>nx (s,r.2.2,r.2.1))<|nx (o.1,p.2.2,p.2.1))<|nx (o.1,o.2.2,o.2.1)).bind (AF λt:Int×AC=>((b (7,t.2.2,t.2.1)).bind λu=>L.run (λv:(List A6)×Int×AC=>q (v.2.1>0) ((c (A1 (x.2.2.1+(ln v.1)),v.2.2.2,v.2.2.1)).bind λw=>(b (4,w.2)).bind λy=>ib ([[97],[98],[99],[100],[101],[102,97,114]]) y.1 λz=>q (room v.1 ([(w.1.1,w.1.2.1,w.1.2.2.1,w.1.2.2.2.1,w.1.2.2.2.2.1,w.1.2.2.2.2.2.1,w.1.2.2.2.2.2.2.1,z)])) (nx (v.1++([(w.1.1,w.1.2.1,w.1.2.2.1,w.1.2.2.2.1,w.1.2.2.2.2.1,w.1.2.2.2.2.2.1,w.1.2.2.2.2.2.2.1,z)]),A1 (v.2.1-1),y.2.2,y.2.1))<|none)<|dx (v.1,v.2.2.2,v.2.2.1)) ([],u.1,u.2.2,u.2.1)).bind (AF λA:(List A6)×(List Int)×Int=>(e A.1).bind λB=>(b (15,A.2)).bind λC=>q (C.1==0) ((f (B.1,C.2)).bind λD=>some ((n.1,t.1,0,0,0,[],[],([],0,[]),[],D.1),D.2))<|some ((n.1,t.1,0,0,0,[],[],([],0,[]),[],B.1),C.2))))<|q (n.1==2) ((g (x.1,n.2.2,n.2.1)).bind λE=>q (ln i>0) ((b (4,E.2)).bind λG=>q (G.1>0) (ib i 0 λH=>some ((n.1,0,0,0,0,[],[],(E.1.1,H,E.1.2.2),[],[]),G.2))<|some ((n.1,0,0,0,0,[],[],E.1,[],[]),G.2))<|some ((n.1,0,0,0,0,[],[],E.1,[],[]),E.2))<|(q (n.1==3) (nx true)<|q (n.1==5) (nx true)<|nx false).bind (AF λI:Bool=>q I ((b (ln x.1.1,n.2.2,n.2.1)).bind λJ=>(a ([12,12,12,1,2,0],J.2)).bind λK=>(q (n.1==3) (q (ln i>0) (ib i (A1 ((ln i)-1)) λM=>nx M)<|q (ln i>0) (ib i 0 λO=>nx O)<|nx J.1)<|q (ln i>0) (ib i 0 λP=>nx P)<|nx J.1).bind (AF λQ:Int=>(L.run (λR:AC=>q (R.1<ln i) (q (ln R.2<4) (ib i R.1 λU=>q (U != Q) (ib i R.1 λV=>q (room R.2 [V]) (nx (A1 (R.1+1),R.2++[V]))<|none)<|nx (A1 (R.1+1),R.2))<|dx R.2)<|dx R.2) (0,[])).bind (AF λW:List Int=>(b (8,K.2)).bind λX=>q (X.1==0) ((a ([(-1),0,Q,ln x.1.1],X.2)).bind λY=>q (room W [Y.1]) (some ((n.1,Q,0,0,K.1,W++[Y.1],[],([],0,[]),[],[]),Y.2))<|none)<|some ((n.1,Q,0,0,K.1,W,[],([],0,[]),[],[]),X.2))))<|q (n.1==4) ((h x.2.1).bind λZ=>(a ([0,0,0,1,2],n.2.2,n.2.1)).bind λaa=>L.run (λab:Int×(List (Int×Int))×AC=>q (ab.1>0) ((b (A1 ((ln Z.2.1)+1),ab.2.2.2,ab.2.2.1)).bind λac=>(b (ln x.1.1,ac.2)).bind λad=>q (room ab.2.1 ([(ac.1,ad.1)])) (nx (A1 (ab.1-1),ab.2.1++([(ac.1,ad.1)]),ad.2.2,ad.2.1))<|none)<|dn ((n.1,0,0,0,0,[],ab.2.1,([],0,[]),[],[]),ab.2.2.2,ab.2.2.1)) (aa.1,[],aa.2.2,aa.2.1))<|q (n.1==6) ((b (ln x.1.1,n.2.2,n.2.1)).bind λae=>(b (ln x.1.1,ae.2)).bind λaf=>(b (4,af.2)).bind λag=>some ((n.1,ae.1,af.1,ag.1,0,[],[],([],0,[]),[],[]),ag.2))<|q (n.1==7) (q (ln x.2.1.2.2.1>0) ((b (ln x.2.1.2.2.1,n.2.2,n.2.1)).bind λah=>ib x.2.1.2.2.1 ah.1 λai=>some ((n.1,0,0,0,0,[],[],([],0,[]),ai.1,[]),ah.2))<|some ((n.1,0,0,0,0,[],[],([],0,[]),[120,49],[]),n.2.2,n.2.1))<|some ((n.1,0,0,0,0,[],[],([],0,[]),[],[]),n.2.2,n.2.1)))
def F20:T20:=B20 std iz U5 F30 F34 F35 F36 F37 F38
def S20 (F:T20):Nat×Be:=⟨20,4,[2],[(0,.ptr 0)],[a1 A5,a2 AO,a3 ti,zc 0 0 li,zc 0 1 ti],[r0 An,zc 0 0 li,zc 0 1 ti],false,F⟩
abbrev jI:=((List Int)×List Int)→Option Int
def rV (L:Lp):jI:=λx=>
 L.run (λa:Int×Int=>q (a.2<ln x.2) (ib x.2 a.2 λb=>ib x.1 b λc=>nx (A1 (a.1+c),A1 (a.2+1)))<|dn a.1) (0,0)
def cR:jI:=rV std
def rW (F:jI):=sq 190 2 [a0 li,a1 li] [r0 ti] F
abbrev rX:=((List ((List UInt8)×Int))×(List Int)×List (List Int))→Option Bool
def rY (L:Lp) (a:jI):rX:=λx=>
 q ((ln x.2.2)!=(ln x.1)) (some false)<|q (ln x.1>24) (some false)<|q (ln x.2.1>192) (some false)<|(L.run (λb:Int=>q (b<ln x.2.1) (ib x.2.1 b λc=>q (c<1) (dn (.done false))<|ib x.2.1 b λd=>q (d>400) (dn (.done false))<|nx (A1 (b+1)))<|dx ()) 0).bind (AF λe:PUnit=>q (Dh (ln x.2.1)) (L.run (λf:Int×List Bool=>q (f.1<ln x.2.2) ((L.run (λg:Int×List Bool=>ib x.2.2 f.1 λh=>q (g.1<ln h) (ib x.2.2 f.1 λi=>ib i g.1 λj=>q (j<0) (dn (.done (.done false)))<|q (j≥ln x.2.1) (dn (.done (.done false)))<|ib g.2 j λk=>q (A7 g.2 j k) (dn (.done (.done false)))<|ib g.2 j λl=>nx (A1 (g.1+1),List.set g.2 (Int.toNat j) true))<|dx g.2) (0,f.2)).bind (AF λm:List Bool=>ib x.1 f.1 λn=>q (n.2<0) (dn false)<|ib x.1 f.1 λo=>q (o.2>100000) (dn false)<|ib x.2.2 f.1 λp=>ib x.1 f.1 λr=>(a (x.2.1,p)).bind λs=>q (s>r.2) (dn false)<|nx (A1 (f.1+1),m)))<|dn true) (0,List.replicate (Int.toNat (ln x.2.1)) false))<|none)
def rZ:rX:=rY std cR
def zn (F:rX):=sq 189 3 [a0 (.sl (.pair .str ti)),a1 li,a2 (.sl li)] [r0 .bool] F
abbrev zo:=List (List Int)→Option (List (List Int))
def B69 (L:Lp):zo:=λx=>
 L.run (λa:(List (List Int))×Int=>q (a.2<ln x) (ib x a.2 λb=>q (room [] b) (q (room a.1 ([[]++b])) (nx (a.1++([[]++b]),A1 (a.2+1)))<|none)<|none)<|dn a.1) ([],0)
def yk:zo:=B69 std
def S69 (F:zo):=sp 69 1 [a0 (.sl li)] [o0 li 22] F
abbrev jJ:=((List (List Int))×Int)→Option (Int×Int)
def B74 (L:Lp):jJ:=λx=>
 L.run (λa:Int=>q (a<ln x.1) (L.run (λb:Int=>ib x.1 a λc=>q (b<ln c) (ib x.1 a λd=>ib d b λe=>q (e==x.2) (dn (.done (a,b)))<|nx (A1 (b+1)))<|dx (A1 (a+1))) 0)<|dn ((-1),(-1))) 0
def cU:jJ:=B74 std
def qt (F:jJ):=sq 74 2 [a0 (.sl li),a1 ti] [r0 ti,r1 ti] F
abbrev US:=((List ((List UInt8)×Int))×(List Int)×(List (List Int))×Ap)→Option ((List (List Int))×Int)
def OQ:US:=λx=>open Classical in if Dc x.1 x.2.1 x.2.2.1 then some (if cd x.1 x.2.1 x.2.2.1 x.2.2.2.1 x.2.2.2.2.1 x.2.2.2.2.2.1=0 then (mv x.2.2.1 x.2.2.2.1 x.2.2.2.2.2.1 x.2.2.2.2.2.2,0) else ([],cd x.1 x.2.1 x.2.2.1 x.2.2.2.1 x.2.2.2.2.1 x.2.2.2.2.2.1)) else none
def XV (F:US):Be:=⟨4,[],[],[a0 (.sl (.pair .str ti)),a1 li,a2 (.sl li),a3 Aj],[o0 li 22,r1 ti],false,F⟩
abbrev Sx:=List A6→Option (List Int)
def sa (L:Lp):Sx:=λx=>
 L.run (λa:(List Int)×Int=>q (a.2<ln x) (ib x a.2 λb=>q (room a.1 [b.2.1]) (nx (a.1++[b.2.1],A1 (a.2+1)))<|none)<|dn a.1) ([],0)
def OR:Sx:=sa std
def UT (F:Sx):=sp 121 1 [a0 (.sl A9)] [r0 li] F
abbrev sb:=(A2×Int)→Option Bool
def B70 (L:Lp):sb:=λx=>
 q (x.2≥0) (some (decide (x.2<ln x.1.1)))<|some false
def qu:sb:=B70 std
def yl (F:sb):=sq 70 2 [a0 A5,a1 ti] [r0 .bool] F
abbrev sd:=((List Int)×Int)→Option Bool
def B71 (L:Lp):sd:=λx=>
 L.run (λa:Int=>q (a<ln x.1) (ib x.1 a λb=>q (b==x.2) (dn true)<|nx (A1 (a+1)))<|dn false) 0
def ym:sd:=B71 std
def yp (F:sd):=sq 71 2 [a0 li,a1 ti] [r0 .bool] F
abbrev yq:=(AH×Int)→Option Bool
def B72 (L:Lp):yq:=λx=>
 L.run (λa:Int=>q (a<ln x.1.2.2.1) (ib x.1.2.2.1 a λb=>q (b.2.1==x.2) (dn true)<|nx (A1 (a+1)))<|dn false) 0
def zp:yq:=B72 std
def zq (F:yq):=sq 72 2 [a0 AO,a1 ti] [r0 .bool] F
abbrev jK:=List Int→Option Int
def se (L:Lp):jK:=λx=>
 q ((ln x)==0) (some (-1))<|(L.run (λa:Int×Int=>ib x 0 λb=>q (a.2<A1 b) (q (A1 (a.1+15)>ln x) (dn (.done (-1)))<|ib x (A1 (a.1+14)) λc=>q (A1 (a.1+(A1 (15+(A1 c))))>ln x) (dn (.done (-1)))<|nx (A1 (a.1+(A1 (15+(A1 c)))),A1 (a.2+1)))<|dx a.1) (1,0)).bind (AF λd:Int=>q (A1 (d+2)>ln x) (some (-1))<|some (A1 (d+2)))
def jL:jK:=se std
def sf (F:jK):=sq 118 1 [a0 (.sl (.int .u8))] [r0 ti] F
abbrev jM:=List Int→Option Int
def sg (L:Lp):jM:=λx=>
 ib x 0 λa=>ib x 1 λb=>some (A1 ((A1 ((A1 a)*256))+(A1 b)))
def UU:jM:=sg std
def si (F:jM):=sq 119 1 [a0 (.sl (.int .u8))] [r0 ti] F
abbrev T73:=List Int→Option ((List A6)×Int)
def B73 (L:Lp) (a:jK) (b:jM) (c:rR) (d:zg):T73:=λx=>
 (a x).bind λe=>q (e<0) (some ([],10))<|q (e<ln x) (some ([],11))<|(sub x (A1 (e-2)) (ln x)).bind λf=>(sub x 0 (A1 (e-2))).bind λg=>(b f).bind λh=>(d g).bind λi=>q (h != i) (some ([],9))<|(L.run (λj:(List A6)×Int×Int=>ib x 0 λk=>q (j.2.2<A1 k) ((sub x j.2.1 (ln x)).bind λl=>(L.run (λm:(List UInt8)×Int=>q (m.2<6) (ib l m.2 λn=>q (IntKind.u8.wrap (Int.tdiv n 16)>9) (dn (.done (.done (.done ([],11)))))<|ib l m.2 λo=>q (Int.tmod o 16>9) (dn (.done (.done (.done ([],11)))))<|ib l m.2 λp=>ib l m.2 λr=>q (room m.1 (E5 ([IntKind.u8.wrap (48+(IntKind.u8.wrap (Int.tdiv p 16))),IntKind.u8.wrap (48+(Int.tmod r 16))]))) (nx (m.1++(E5 ([IntKind.u8.wrap (48+(IntKind.u8.wrap (Int.tdiv p 16))),IntKind.u8.wrap (48+(Int.tmod r 16))])),A1 (m.2+1)))<|none)<|dx m.1) ([],0)).bind (AF λs:List UInt8=>ib l 13 λt=>q (t>25) (dn (.done ([],11)))<|ib l 13 λu=>q (u≥10) (ib l 13 λv=>q (v≤15) (dn (.done ([],11)))<|ib l 14 λw=>(sub l 6 (ln l)).bind λy=>ib l 8 λz=>(sub l 9 (ln l)).bind λA=>(sub l 11 (ln l)).bind λB=>ib l 13 λC=>ib l 13 λD=>(sub l 15 (A1 (15+(A1 w)))).bind λE=>(b y).bind λG=>(b A).bind λH=>(b B).bind λI=>q (room j.1 ([(s,G,A1 z,H,I,A1 (Int.tmod C 16),decide (D≥16),E5 E)])) (nx (j.1++([(s,G,A1 z,H,I,A1 (Int.tmod C 16),decide (D≥16),E5 E)]),A1 (j.2.1+(A1 (15+(A1 w)))),A1 (j.2.2+1)))<|none)<|ib l 14 λJ=>(sub l 6 (ln l)).bind λK=>ib l 8 λM=>(sub l 9 (ln l)).bind λO=>(sub l 11 (ln l)).bind λP=>ib l 13 λQ=>ib l 13 λR=>(sub l 15 (A1 (15+(A1 J)))).bind λU=>(b K).bind λV=>(b O).bind λW=>(b P).bind λX=>q (room j.1 ([(s,V,A1 M,W,X,A1 (Int.tmod Q 16),decide (R≥16),E5 U)])) (nx (j.1++([(s,V,A1 M,W,X,A1 (Int.tmod Q 16),decide (R≥16),E5 U)]),A1 (j.2.1+(A1 (15+(A1 J)))),A1 (j.2.2+1)))<|none))<|dx j.1) ([],1,0)).bind (AF λY:List A6=>(c Y).bind λZ=>q (Z != 0) (some ([],Z))<|some (Y,0))
def F73:T73:=B73 std jL UU rS zh
def S73 (F:T73):=sp 73 1 [a0 (.sl (.int .u8))] [r0 (.sl A9),r1 ti] F
abbrev T40:=(A2×(List A6)×(List (List Int))×(List A0)×Bool×Ab×Bool×Ah×Ag)→Option (Int×A2×(List A6)×(List (List Int))×(List A0)×Bool×Ab×Bool×Ah×Ag)
def B40 (L:Lp) (a:US) (b:Sx) (c:sb) (d:sd) (e:yq) (f:T73) (g:jJ):T40:=λx=>
 (c (x.1,x.2.2.2.2.2.2.2.1.2.1)).bind λh=>q (!h) (some (2,x))<|q x.2.2.2.2.2.2.1 (some (25,x))<|q x.2.2.2.2.1 (q (x.2.2.2.2.2.2.2.1.2.1==x.2.2.2.2.2.1.2.2.2.1) (some (25,x))<|(d (x.2.2.2.2.2.1.2.2.2.2.1,x.2.2.2.2.2.2.2.1.2.1)).bind λi=>q i (some (25,x))<|(e ((x.2.1,x.2.2.1,x.2.2.2.1,x.2.2.2.2.1,x.2.2.2.2.2.1,x.2.2.2.2.2.2.1),x.2.2.2.2.2.2.2.1.2.1)).bind λj=>q j (some (17,x))<|(f x.2.2.2.2.2.2.2.1.2.2.2.2.2.2.2.2.2).bind λk=>q (k.2 != 0) (some (k.2,x))<|(L.run (λl:Int=>q (l<ln k.1) (L.run (λm:Int=>q (m<ln x.2.1) ((g (x.2.2.1,m)).bind λn=>q (n.1≥0) (ib x.2.1 m λo=>ib k.1 l λp=>q (((A7 x.2.1 m o).1)==p.1) (dn (.done (.done (8,x))))<|nx (A1 (m+1)))<|nx (A1 (m+1)))<|dx (A1 (l+1))) 0)<|dx ()) 0).bind (AF λr:PUnit=>q (A1 ((ln x.2.1)+(ln k.1))>192) (some (3,x))<|q (room x.2.1 k.1) (L.run (λs:Int×(List A6)×(List Ap)×List (List Int)=>q (s.1<ln k.1) ((g (s.2.2.2,A1 ((ln x.2.1)+s.1))).bind λt=>(b s.2.1).bind λu=>(a (x.1.1,u,s.2.2.2,A1 ((ln x.2.1)+s.1),t.1,x.2.2.2.2.2.2.2.1.2.1,false)).bind λv=>q (v.2 != 0) (dn (14,x.1,s.2.1,s.2.2.2,x.2.2.2.1,x.2.2.2.2.1,x.2.2.2.2.2.1,x.2.2.2.2.2.2.1,x.2.2.2.2.2.2.2.1,x.2.2.2.2.2.2.2.2.1,s.2.2.1,x.2.2.2.2.2.2.2.2.2.2))<|q (room s.2.2.1 ([(A1 ((ln x.2.1)+s.1),t.1,x.2.2.2.2.2.2.2.1.2.1,false)])) (nx (A1 (s.1+1),s.2.1,s.2.2.1++([(A1 ((ln x.2.1)+s.1),t.1,x.2.2.2.2.2.2.2.1.2.1,false)]),v.1))<|none)<|dn (0,x.1,s.2.1,s.2.2.2,x.2.2.2.1,x.2.2.2.2.1,x.2.2.2.2.2.1,x.2.2.2.2.2.2.1,x.2.2.2.2.2.2.2.1,x.2.2.2.2.2.2.2.2.1,s.2.2.1,x.2.2.2.2.2.2.2.2.2.2)) (0,x.2.1++k.1,x.2.2.2.2.2.2.2.2.2.1,x.2.2.1))<|none))<|(e ((x.2.1,x.2.2.1,x.2.2.2.1,x.2.2.2.2.1,x.2.2.2.2.2.1,x.2.2.2.2.2.2.1),x.2.2.2.2.2.2.2.1.2.1)).bind λw=>q w (some (17,x))<|(f x.2.2.2.2.2.2.2.1.2.2.2.2.2.2.2.2.2).bind λy=>q (y.2 != 0) (some (y.2,x))<|(L.run (λz:Int=>q (z<ln y.1) (L.run (λA:Int=>q (A<ln x.2.1) ((g (x.2.2.1,A)).bind λB=>q (B.1≥0) (ib x.2.1 A λC=>ib y.1 z λD=>q (((A7 x.2.1 A C).1)==D.1) (dn (.done (.done (8,x))))<|nx (A1 (A+1)))<|nx (A1 (A+1)))<|dx (A1 (z+1))) 0)<|dx ()) 0).bind (AF λE:PUnit=>q (A1 ((ln x.2.1)+(ln y.1))>192) (some (3,x))<|q (room x.2.1 y.1) (L.run (λG:Int×(List A6)×(List Ap)×List (List Int)=>q (G.1<ln y.1) ((g (G.2.2.2,A1 ((ln x.2.1)+G.1))).bind λH=>(b G.2.1).bind λI=>(a (x.1.1,I,G.2.2.2,A1 ((ln x.2.1)+G.1),H.1,x.2.2.2.2.2.2.2.1.2.1,false)).bind λJ=>q (J.2 != 0) (dn (14,x.1,G.2.1,G.2.2.2,x.2.2.2.1,x.2.2.2.2.1,x.2.2.2.2.2.1,x.2.2.2.2.2.2.1,x.2.2.2.2.2.2.2.1,x.2.2.2.2.2.2.2.2.1,G.2.2.1,x.2.2.2.2.2.2.2.2.2.2))<|q (room G.2.2.1 ([(A1 ((ln x.2.1)+G.1),H.1,x.2.2.2.2.2.2.2.1.2.1,false)])) (nx (A1 (G.1+1),G.2.1,G.2.2.1++([(A1 ((ln x.2.1)+G.1),H.1,x.2.2.2.2.2.2.2.1.2.1,false)]),J.1))<|none)<|dn (0,x.1,G.2.1,G.2.2.2,x.2.2.2.1,x.2.2.2.2.1,x.2.2.2.2.2.1,x.2.2.2.2.2.2.1,x.2.2.2.2.2.2.2.1,x.2.2.2.2.2.2.2.2.1,G.2.2.1,x.2.2.2.2.2.2.2.2.2.2)) (0,x.2.1++y.1,x.2.2.2.2.2.2.2.2.2.1,x.2.2.1))<|none)
def F40:T40:=B40 std OQ OR qu ym zp F73 cU
def S40 (F:T40):Nat×Be:=⟨40,1,[49],[(0,.ptr 0)],[zc 0 0 A5,.cell 0 5 (.own A9 60),zc 0 6 (.sl li),zc 0 7 (.sl A3),zc 0 8 .bool,zc 0 9 Ae,zc 0 18 .bool,zc 0 19 An,zc 0 31 ti,.cell 0 32 (.own Aj 177),zc 0 33 AK,zc 0 36 (.sl Ai),zc 0 37 AU,zc 0 47 ti,zc 0 48 ti],[r0 ti,zc 0 0 A5,zc 0 5 (.sl A9),zc 0 6 (.sl li),zc 0 7 (.sl A3),zc 0 8 .bool,zc 0 9 Ae,zc 0 18 .bool,zc 0 19 An,zc 0 31 ti,zc 0 32 (.sl Aj),zc 0 33 AK,zc 0 36 (.sl Ai),zc 0 37 AU,zc 0 47 ti,zc 0 48 ti],false,F⟩
abbrev sj:=(A0×List UInt8)→Option Int
def B77 (L:Lp):sj:=λx=>
 L.run (λa:Int=>q (a<ln x.1.2.2) (ib x.1.2.2 a λb=>q (b==x.2) (dn a)<|nx (A1 (a+1)))<|dn (-1)) 0
def yr:sj:=B77 std
def yu (F:sj):=sq 77 2 [a0 A3,a1 .str] [r0 ti] F
abbrev zr:=(A2×A0)→Option Bool
def B76 (L:Lp) (a:yi) (b:sj):zr:=λx=>
 (a x.2.1).bind λc=>q (!c) (some false)<|q (x.2.2.1<0) (some false)<|q (x.2.2.1≥ln x.1.1) (some false)<|q (ln x.2.2.2<1) (some false)<|q (ln x.2.2.2>16) (some false)<|L.run (λd:Int=>q (d<ln x.2.2.2) (ib x.2.2.2 d λe=>(a e).bind λf=>q (!f) (dn false)<|ib x.2.2.2 d λg=>(b (x.2,g)).bind λh=>q (h != d) (dn false)<|nx (A1 (d+1)))<|dn true) 0
def zt:zr:=B76 std rC yr
def S76 (F:zr):=sq 76 2 [a0 A5,a1 A3] [r0 .bool] F
abbrev T41:=(A2×(List A6)×(List (List Int))×(List A0)×Bool×Ab×Bool×Ah×Ag)→Option (Int×A2×(List A6)×(List (List Int))×(List A0)×Bool×Ab×Bool×Ah×Ag)
def B41 (L:Lp) (a:zr) (b:sj):T41:=λx=>
 q x.2.2.2.2.1 (some (25,x))<|(a (x.1,x.2.2.2.2.2.2.2.1.2.2.2.2.2.2.2.1)).bind λc=>q (!c) (some (1,x))<|(L.run (λd:Int=>q (d<ln x.2.2.2.1) (ib x.2.2.2.1 d λe=>q (((A7 x.2.2.2.1 d e).1)==x.2.2.2.2.2.2.2.1.2.2.2.2.2.2.2.1.1) (dn (.done (8,x)))<|q ((((A7 x.2.2.2.1 d e).2).1)==x.2.2.2.2.2.2.2.1.2.2.2.2.2.2.2.1.2.1) (dn (.done (8,x)))<|L.run (λf:Int=>q (f<ln x.2.2.2.2.2.2.2.1.2.2.2.2.2.2.2.1.2.2) (ib x.2.2.2.2.2.2.2.1.2.2.2.2.2.2.2.1.2.2 f λg=>(b (((A7 x.2.2.2.1 d e).1,((A7 x.2.2.2.1 d e).2).1,((A7 x.2.2.2.1 d e).2).2),g)).bind λh=>q (h≥0) (dn (.done (.done (8,x))))<|nx (A1 (f+1)))<|dx (A1 (d+1))) 0)<|dx ()) 0).bind (AF λi:PUnit=>q ((ln x.2.2.2.1)==8) (some (18,x))<|ib x.2.2.1 x.2.2.2.2.2.2.2.1.2.2.2.2.2.2.2.1.2.1 λj=>q (ln j>0) (some (17,x))<|q (room [] x.2.2.2.2.2.2.2.1.2.2.2.2.2.2.2.1.2.2) (q (room x.2.2.2.1 ([(x.2.2.2.2.2.2.2.1.2.2.2.2.2.2.2.1.1,x.2.2.2.2.2.2.2.1.2.2.2.2.2.2.2.1.2.1,[]++x.2.2.2.2.2.2.2.1.2.2.2.2.2.2.2.1.2.2)])) (some (0,x.1,x.2.1,x.2.2.1,x.2.2.2.1++([(x.2.2.2.2.2.2.2.1.2.2.2.2.2.2.2.1.1,x.2.2.2.2.2.2.2.1.2.2.2.2.2.2.2.1.2.1,[]++x.2.2.2.2.2.2.2.1.2.2.2.2.2.2.2.1.2.2)]),x.2.2.2.2))<|none)<|none)
def F41:T41:=B41 std zt yr
def S41 (F:T41):Nat×Be:=⟨41,1,[49],[(0,.ptr 0)],[zc 0 0 A5,zc 0 5 (.sl A9),zc 0 6 (.sl li),.cell 0 7 (.own A3 80),zc 0 8 .bool,zc 0 9 Ae,zc 0 18 .bool,zc 0 19 An,zc 0 31 AP],[r0 ti,zc 0 0 A5,zc 0 5 (.sl A9),zc 0 6 (.sl li),zc 0 7 (.sl A3),zc 0 8 .bool,zc 0 9 Ae,zc 0 18 .bool,zc 0 19 An,zc 0 31 AP],false,F⟩
abbrev zu:=AR→Option (Bool×AR)
def B78 (L:Lp) (a:sb):zu:=λx=>
 (a (x.1,x.2.2.1.2.1)).bind λb=>q b (q (x.2.2.1.2.2.2.2.1≥0) (L.run (λc:Bool×Int=>q (c.2<ln x.2.2.1.2.2.2.2.2.1) (q c.1 (ib x.2.2.1.2.2.2.2.2.1 c.2 λd=>(a (x.1,d)).bind λe=>nx (e,A1 (c.2+1)))<|nx (false,A1 (c.2+1)))<|dn (c.1,x)) (decide (x.2.2.1.2.2.2.2.1≤12),0))<|L.run (λf:Bool×Int=>q (f.2<ln x.2.2.1.2.2.2.2.2.1) (q f.1 (ib x.2.2.1.2.2.2.2.2.1 f.2 λg=>(a (x.1,g)).bind λh=>nx (h,A1 (f.2+1)))<|nx (false,A1 (f.2+1)))<|dn (f.1,x)) (false,0))<|L.run (λi:Bool×Int=>q (i.2<ln x.2.2.1.2.2.2.2.2.1) (q i.1 (ib x.2.2.1.2.2.2.2.2.1 i.2 λj=>(a (x.1,j)).bind λk=>nx (k,A1 (i.2+1)))<|nx (false,A1 (i.2+1)))<|dn (i.1,x)) (false,0)
def zx:zu:=B78 std qu
def S78 (F:zu):Nat×Be:=⟨78,1,[49],[(0,.ptr 0)],[zc 0 0 A5,zc 0 5 AO,zc 0 19 An,zc 0 31 ti,.cell 0 32 (.own Aj 177),zc 0 33 AK,.cell 0 36 (.own Ai 170),zc 0 37 AU,zc 0 47 ti,zc 0 48 ti],[r0 .bool,zc 0 0 A5,zc 0 5 AO,zc 0 19 An,zc 0 31 ti,.cell 0 32 (.own Aj 177),zc 0 33 AK,.cell 0 36 (.own Ai 170),zc 0 37 AU,zc 0 47 ti,zc 0 48 ti],false,F⟩
abbrev zy:=AR→Option (Bool×AR)
def B79 (L:Lp) (a:sd) (b:yq):zy:=λx=>
 (b (x.2.1,x.2.2.1.2.1)).bind λc=>L.run (λd:Bool×Int=>q (d.2<ln x.2.2.1.2.2.2.2.2.1) (q d.1 (ib x.2.2.1.2.2.2.2.2.1 d.2 λe=>q (e != x.2.2.1.2.1) ((sub x.2.2.1.2.2.2.2.2.1 0 d.2).bind λf=>ib x.2.2.1.2.2.2.2.2.1 d.2 λg=>(a (f,g)).bind λh=>q (!h) (ib x.2.2.1.2.2.2.2.2.1 d.2 λi=>(b (x.2.1,i)).bind λj=>nx (!j,A1 (d.2+1)))<|nx (false,A1 (d.2+1)))<|nx (false,A1 (d.2+1)))<|nx (false,A1 (d.2+1)))<|dn (d.1,x)) (!c,0)
def zz:zy:=B79 std ym zp
def S79 (F:zy):Nat×Be:=⟨79,1,[49],[(0,.ptr 0)],[zc 0 0 A5,zc 0 5 AO,zc 0 19 An,zc 0 31 ti,.cell 0 32 (.own Aj 177),zc 0 33 AK,.cell 0 36 (.own Ai 170),zc 0 37 AU,zc 0 47 ti,zc 0 48 ti],[r0 .bool,zc 0 0 A5,zc 0 5 AO,zc 0 19 An,zc 0 31 ti,.cell 0 32 (.own Aj 177),zc 0 33 AK,.cell 0 36 (.own Ai 170),zc 0 37 AU,zc 0 47 ti,zc 0 48 ti],false,F⟩
abbrev jN:=((List A0)×List UInt8)→Option (Int×Int)
def zA (L:Lp) (a:sj):jN:=λx=>
 L.run (λb:Int=>q (b<ln x.1) (ib x.1 b λc=>(a (c,x.2)).bind λd=>q (d≥0) (dn (b,d))<|nx (A1 (b+1)))<|dn ((-1),(-1))) 0
def sn:jN:=zA std yr
def so (F:jN):=sq 122 2 [a0 (.sl A3),a1 .str] [r0 ti,r1 ti] F
abbrev zB:=((List A0)×A6)→Option Aa
def B80 (L:Lp) (a:jN):zB:=λx=>
 (a (x.1,x.2.2.2.2.2.2.2.2)).bind λb=>some (b.1,b.2,0,x.2.2.1)
def zC:zB:=B80 std sn
def S80 (F:zB):=sq 80 2 [a0 (.sl A3),a1 A9] [r0 Ai] F
abbrev jO:=Bb→Option Int
def sr (L:Lp):jO:=λx=>
 q (ln x.1>96) (some 3)<|q (x.2<0) (some 2)<|q (x.2>12) (some 2)<|L.run (λa:Int=>q (a<ln x.1) (ib x.1 a λb=>q (b.1<0) (dn 2)<|q (b.1≥16) (dn 2)<|q (b.2.1<0) (dn 2)<|q (b.2.1≥32) (dn 2)<|q (b.2.2.1<0) (dn 2)<|q (b.2.2.1≥13) (dn 2)<|q (b.2.2.2<1) (dn 2)<|q (b.2.2.2>400) (dn 2)<|q (a>0) (ib x.1 (A1 (a-1)) λc=>q (b.2.2.1<c.2.2.1) (dn 12)<|nx (A1 (a+1)))<|nx (A1 (a+1)))<|dn 0) 0
def jP:jO:=sr std
def su (F:jO):=sq 191 1 [a0 Cx] [r0 ti] F
abbrev cV:=(Int×Int)→Option Bool
def sv (L:Lp):cV:=λx=>
 q (x.1≥0) (q (x.1<13) (q (x.2≥0) (some (decide (x.2≤12)))<|some false)<|some false)<|some false
def cX:cV:=sv std
def jQ (F:cV):=sq 249 2 [a0 ti,a1 ti] [r0 .bool] F
abbrev jR:=(Int×Int×Int)→Option Bool
def sw (L:Lp) (a:cV):jR:=λx=>
 (a x.2).bind λb=>q (!b) (some false)<|q (x.1<0) (some false)<|q (x.1≥4096) (some false)<|q (!(x.2.1<0)) (q ((Gs .i64 1 x.2.1)!=0) (q (!(x.2.1<0)) (q ((Int.tmod x.1 (Gs .i64 1 x.2.1))!=(A1 ((Gs .i64 1 x.2.1)-1))) (some false)<|q (!(x.2.1<0)) (L.run (λc:Int×Int=>q (c.2>0) (nx (A1 (c.1+(Int.tmod c.2 2)),A1 (Int.tdiv c.2 2)))<|dn (decide (c.1≤x.2.2))) (0,DV .i64 x.1 x.2.1))<|none)<|none)<|none)<|none
def jS:jR:=sw std cX
def sy (F:jR):=sq 250 3 [a0 ti,a1 ti,a2 ti] [r0 .bool] F
abbrev jT:=(Int×Int×Int)→Option (Int×Int)
def sA (L:Lp) (a:cV) (b:jR):jT:=λx=>
 (a x.2).bind λc=>q (!c) (some (0,2))<|q (x.1<0) (some (0,2))<|L.run (λd:Int=>q (d<4096) ((b (d,x.2)).bind λe=>q e (dn (d,0))<|nx (A1 (d+1)))<|dn (0,15)) x.1
def cY:jT:=sA std cX jS
def sB (F:jT):=sq 192 3 [a0 ti,a1 ti,a2 ti] [r0 ti,r1 ti] F
abbrev XW:=(Bb×Int×Int)→Option Int
def sC (L:Lp):XW:=λx=>
 ib x.1.1 x.2.1 λa=>ib x.1.1 x.2.2 λb=>q (a.1 != b.1) (some 0)<|q (a.2.1≥b.2.1) (some 0)<|q (x.2.2<x.2.1) (some 2)<|some 1
def XX:XW:=sC std
def cZ (F:XW):=sq 251 3 [a0 Cx,a1 ti,a2 ti] [r0 ti] F
abbrev d5:=(Bb×Int×Int)→Option Int
def sD (L:Lp) (a:XW):d5:=λx=>
 (a x).bind λb=>some (A1 (Int.tdiv b 2))
def d6:d5:=sD std XX
def jU (F:d5):=sq 252 3 [a0 Cx,a1 ti,a2 ti] [r0 ti] F
abbrev d7:=(Bb×(List Int)×Int)→Option Int
def sE (L:Lp) (a:XW) (b:d5):d7:=λx=>
 L.run (λc:Int×Int=>q (c.2<ln x.1.1) ((a (x.1,c.2,x.2.2)).bind λd=>q (d>0) (ib x.2.1 c.2 λe=>(b (x.1,c.2,x.2.2)).bind λf=>nx (max c.1 (A1 (e+f)),A1 (c.2+1)))<|nx (c.1,A1 (c.2+1)))<|dn c.1) (0,0)
def XY:d7:=sE std XX d6
def jV (F:d7):=sq 193 3 [a0 Cx,a1 li,a2 ti] [r0 ti] F
abbrev jW:=Int→Option Int
def sF (L:Lp):jW:=λx=>
 L.run (λa:Int×Int=>q (a.1>0) (nx (A1 (Int.tdiv a.1 2),A1 (a.2+1)))<|dn a.2) (x,0)
def d8:jW:=sF std
def sG (F:jW):=sq 194 1 [a0 ti] [r0 ti] F
abbrev d9:=Bb→Option (AC×Int)
def sH (L:Lp) (a:jO) (b:jT) (c:d7) (d:jW):d9:=λx=>
 (a x).bind λe=>q (e != 0) (some ((0,[]),e))<|q (Dh (ln x.1)) ((L.run (λf:Int×AC=>q (f.2.1<32) (L.run (λg:Int×AC=>q (g.2.1<ln g.2.2) (ib x.1 g.2.1 λh=>q (h.2.1 != f.2.1) (nx (g.1,A1 (g.2.1+1),g.2.2))<|ib x.1 g.2.1 λi=>(c (x,g.2.2,g.2.1)).bind λj=>(b (j,i.2.2.1,x.2)).bind λk=>q (k.2 != 0) (dn (.done (.done ((0,[]),k.2))))<|ib g.2.2 g.2.1 λl=>nx (max g.1 k.1,A1 (g.2.1+1),List.set g.2.2 (Int.toNat g.2.1) k.1))<|dx (g.1,A1 (f.2.1+1),g.2.2)) (f.1,0,f.2.2))<|dx (f.1,f.2.2)) (0,0,List.replicate (Int.toNat (ln x.1)) 0)).bind (AF λm:AC=>(d m.1).bind λn=>some ((n,m.2),0)))<|none
def du:d9:=sH std jP cY XY d8
def jX (F:d9):=sp 123 1 [a0 Cx] [r0 ME,r1 ti] F
abbrev jY:=(Bb×List Int)→Option (List Int)
def sI (L:Lp) (a:d7) (b:XW) (c:d5):jY:=λx=>
 q ((ln x.2)==0) (some [])<|(L.run (λd:Int×Int=>q (d.2<ln x.2) (ib x.2 d.2 λe=>ib x.2 d.1 λf=>q (e>f) (nx (d.2,A1 (d.2+1)))<|nx (d.1,A1 (d.2+1)))<|dx d.1) (0,0)).bind (AF λg:Int=>(a (x.1,x.2,g)).bind λh=>L.run (λi:Int×(List Int)×Int=>q (i.2.2>0) (((L.run (λj:Int=>(b (x.1,j,i.1)).bind λk=>q (k==0) (nx (A1 (j+1)))<|ib x.2 j λl=>(c (x.1,j,i.1)).bind λm=>q ((A1 (l+m))!=i.2.2) (nx (A1 (j+1)))<|dx j) 0).bind (AF λn:Int=>q (room [n] i.2.1) (nx (n,[n]++i.2.1))<|none)).bind (AF λo:AC=>(a (x.1,x.2,o.1)).bind λp=>nx (o.1,o.2,p)))<|dn i.2.1) (g,[g],h))
def jZ:jY:=sI std XY XX d6
def sJ (F:jY):=sp 195 2 [a0 Cx,a1 li] [r0 li] F
abbrev k9:=Bb→Option ((List Int)×Int)
def sK (L:Lp) (a:d9) (b:jY):k9:=λx=>
 (a x).bind λc=>q (c.2 != 0) (some ([],c.2))<|(b (x,c.1.2)).bind λd=>some (d,0)
def sL:k9:=sK std du jZ
def sM (F:k9):=sp 124 1 [a0 Cx] [r0 li,r1 ti] F
abbrev zD:=Bb→Option (BE×Int)
def B81 (L:Lp) (a:d9) (b:k9):zD:=λx=>
 (a x).bind λc=>q (c.2 != 0) (some (((0,[]),[]),c.2))<|(b x).bind λd=>some ((c.1,d.1),0)
def zH:zD:=B81 std du sL
def S81 (F:zD):=sp 81 1 [a0 Cx] [r0 AK,r1 ti] F
abbrev zI:=(AH×List Int)→Option Int
def B88 (L:Lp):zI:=λx=>
 L.run (λa:Int×Int=>q (a.2<ln x.2) (ib x.2 a.2 λb=>ib x.1.1 b λc=>nx (A1 (a.1+c.2.1),A1 (a.2+1)))<|dn a.1) (0,0)
def zJ:zI:=B88 std
def S88 (F:zI):=sq 88 2 [a0 AO,a1 li] [r0 ti] F
abbrev zK:=(A2×AH×Bb×AC×(List Int)×List (List Int))→Option Bool
def B82 (L:Lp) (a:zI):zK:=λx=>
 q (x.2.2.2.1.1>ln x.2.2.2.2.1) (some false)<|(L.run (λb:Int=>q (b<x.2.2.2.1.1) ((L.run (λc:Int×Int=>q (c.2<ln x.2.2.1.1) (ib x.2.2.2.1.2 c.2 λd=>q (!(IntKind.u64.wrap b<0)) (q ((CF .i64 (DV .i64 d (IntKind.u64.wrap b)) 1)==1) (ib x.2.2.1.1 c.2 λe=>nx (A1 (c.1+e.2.2.2),A1 (c.2+1)))<|nx (c.1,A1 (c.2+1)))<|none)<|dx c.1) (0,0)).bind (AF λf:Int=>ib x.2.2.2.2.1 b λg=>ib x.1.1 g λh=>q (f>h.2) (dn (.done false))<|nx (A1 (b+1))))<|dx ()) 0).bind (AF λi:PUnit=>L.run (λj:Int=>q (j<ln x.2.1.2.2.1) (ib x.2.1.2.2.1 j λk=>ib x.2.2.2.2.2 k.2.1 λl=>(a (x.2.1,l)).bind λm=>(L.run (λn:Int×Int=>q (n.2<ln x.2.2.1.1) (ib x.2.2.1.1 n.2 λo=>q (o.1==j) (ib x.2.2.1.1 n.2 λp=>nx (A1 (n.1+p.2.2.2),A1 (n.2+1)))<|nx (n.1,A1 (n.2+1)))<|dx n.1) (m,0)).bind (AF λr:Int=>ib x.2.1.2.2.1 j λs=>ib x.1.1 s.2.1 λt=>q (r>t.2) (dn false)<|nx (A1 (j+1))))<|dn true) 0)
def zL:zK:=B82 std zJ
def S82 (F:zK):=sq 82 6 [a0 A5,a1 AO,a2 Cx,a3 ME,a4 li,a5 (.sl li)] [r0 .bool] F
abbrev zN:=((List Int)×Bb×BE×AR)→Option AR
def B83 (L:Lp):zN:=λx=>
 (sub x.2.2.2.2.2.1.2.2.2.2.2.1 0 x.2.2.1.1.1).bind λa=>q (room [] a) (q (room [] x.2.2.1.1.2) (q (room [] x.2.2.1.2) (some (x.2.2.2.1,(x.2.2.2.2.1.1,x.2.2.2.2.1.2.1,x.2.2.2.2.1.2.2.1,true,(x.1,x.2.1,x.2.2.1,x.2.2.2.2.2.1.2.1,[]++a,0),false),x.2.2.2.2.2.1,x.2.2.2.2.2.2.1,x.2.2.2.2.2.2.2.1,((x.2.2.1.1.1,[]++x.2.2.1.1.2),[]++x.2.2.1.2),x.2.2.2.2.2.2.2.2.2))<|none)<|none)<|none
def yv:zN:=B83 std
def S83 (F:zN):Nat×Be:=⟨83,4,[49],[(0,.ptr 0)],[a1 li,a2 Cx,a3 AK]++cW,cW,false,F⟩
abbrev T42:=AR→Option (Int×AR)
def B42 (L:Lp) (a:zu) (b:zy) (c:zB) (d:zD) (e:zK) (f:zN):T42:=λx=>
 q x.2.1.2.2.2.1 (some (25,x))<|(a x).bind λg=>q (!g.1) (some (2,g.2))<|(b g.2).bind λh=>(L.run (λi:Bool×Int=>q (i.2<ln h.2.2.2.1.2.2.2.2.2.1) (q i.1 (ib h.2.2.2.1.2.2.2.2.2.1 i.2 λj=>ib h.2.2.1.2.1 j λk=>nx ((ln k)==0,A1 (i.2+1)))<|nx (false,A1 (i.2+1)))<|dx i.1) (h.1,0)).bind (AF λl:Bool=>q (!l) (some (17,h.2))<|ib h.2.2.1.2.1 h.2.2.2.1.2.1 λm=>q (room [] m) ((L.run (λn:Int×List Aa=>q (n.1<ln ([]++m)) (ib ([]++m) n.1 λo=>ib h.2.2.1.1 (A7 ([]++m) n.1 o) λp=>(c (h.2.2.1.2.2.1,p)).bind λr=>q (room n.2 ([r])) (ib (n.2++([r])) n.1 λs=>q ((A7 (n.2++([r])) n.1 s).1<0) (dn (.done (13,h.2)))<|nx (A1 (n.1+1),n.2++([r])))<|none)<|dx n.2) (0,[])).bind (AF λt:List Aa=>q ((ln ([]++m))==0) (some (13,h.2))<|(L.run (λu:Int=>q (u<ln ([]++m)) (ib t u λv=>ib h.2.2.1.2.2.1 ((A7 t u v).1) λw=>ib h.2.2.1.2.1 w.2.1 λy=>q (ln y>0) (ib y (A1 ((ln y)-1)) λz=>ib h.2.2.1.1 z λA=>ib t u λB=>(c (h.2.2.1.2.2.1,A)).bind λC=>q (C.2.1>((A7 t u B).2).1) (dn (.done (12,h.2)))<|nx (A1 (u+1)))<|nx (A1 (u+1)))<|dx ()) 0).bind (AF λD:PUnit=>(d (t,h.2.2.2.1.2.2.2.2.1)).bind λE=>q (E.2 != 0) (some (E.2,h.2))<|(e (h.2.1,h.2.2.1,(t,h.2.2.2.1.2.2.2.2.1),E.1.1,h.2.2.2.1.2.2.2.2.2.1,h.2.2.1.2.1)).bind λG=>q (!G) (some (14,h.2))<|(f ([]++m,(t,h.2.2.2.1.2.2.2.2.1),E.1,h.2)).bind λH=>some (0,H))))<|none)
def F42:T42:=B42 std zx zz zC zH zL yv
def S42 (F:T42):Nat×Be:=⟨42,1,[49],[(0,.ptr 0)],[zc 0 0 A5,zc 0 5 AO,zc 0 19 An,zc 0 31 ti,.cell 0 32 (.own Aj 177),zc 0 33 AK,.cell 0 36 (.own Ai 170),zc 0 37 AU,zc 0 47 ti,zc 0 48 ti],[r0 ti,zc 0 0 A5,zc 0 5 AO,zc 0 19 An,zc 0 31 ti,zc 0 32 (.sl Aj),zc 0 33 AK,zc 0 36 (.sl Ai),zc 0 37 AU,zc 0 47 ti,zc 0 48 ti],false,F⟩
abbrev T43:=AR→Option (Int×AR)
def B43 (L:Lp) (a:US) (b:Sx) (c:zi) (d:zk) (e:sb) (f:jJ):T43:=λx=>
 q (!x.2.1.2.2.2.1) (some (16,x))<|q x.2.1.2.2.2.2.2 (some (25,x))<|q (ln x.2.2.1.2.2.2.2.2.2.1>16) (some (3,x))<|(c x.2.1).bind λg=>ib x.2.1.2.1 g λh=>q (room [] h) ((d (x.2.1,[]++h)).bind λi=>q (room [] i) ((L.run (λj:Int=>q (j<ln x.2.2.1.2.2.2.2.2.2.1) (ib x.2.2.1.2.2.2.2.2.2.1 j λk=>q (k.1<0) (dn (.done (2,x)))<|q (k.1≥ln ([]++h)) (dn (.done (2,x)))<|(e (x.1,k.2)).bind λl=>q (!l) (dn (.done (2,x)))<|nx (A1 (j+1)))<|dx ()) 0).bind (AF λm:PUnit=>(L.run (λn:Int=>q (n<ln x.2.2.1.2.2.2.2.2.2.1) (L.run (λo:Int=>q (o<n) (ib x.2.2.1.2.2.2.2.2.2.1 o λp=>ib x.2.2.1.2.2.2.2.2.2.1 n λr=>q (p.1==r.1) (dn (.done (.done (8,x))))<|nx (A1 (o+1)))<|dx (A1 (n+1))) 0)<|dx ()) 0).bind (AF λs:PUnit=>(L.run (λt:AC=>q (t.1<ln x.2.2.1.2.2.2.2.2.2.1) (ib x.2.2.1.2.2.2.2.2.2.1 t.1 λu=>q (u.2==g) (dn (.done (17,x)))<|ib x.2.2.1.2.2.2.2.2.2.1 t.1 λv=>ib x.2.2.1.2.2.2.2.2.2.1 t.1 λw=>ib t.2 v.1 λy=>nx (A1 (t.1+1),List.set t.2 (Int.toNat v.1) w.2))<|dx t.2) (0,[]++i)).bind (AF λz:List Int=>(L.run (λA:Int×Bool×(List Ap)×List (List Int)=>q (A.1<ln ([]++h)) (ib ([]++h) A.1 λB=>ib z A.1 λC=>(f (A.2.2.2,B)).bind λD=>(b x.2.1.1).bind λE=>(a (x.1.1,E,A.2.2.2,B,D.1,A7 z A.1 C,false)).bind λG=>q (G.2 != 0) (dn (.done (14,x.1,(x.2.1.1,A.2.2.2,x.2.1.2.2.1,x.2.1.2.2.2.1,x.2.1.2.2.2.2.1,A.2.1),x.2.2.1,x.2.2.2.1,A.2.2.1,x.2.2.2.2.2)))<|q (room A.2.2.1 ([(B,D.1,A7 z A.1 C,false)])) (q A.2.1 (nx (A1 (A.1+1),true,A.2.2.1++([(B,D.1,A7 z A.1 C,false)]),G.1))<|ib z A.1 λH=>ib i A.1 λI=>nx (A1 (A.1+1),(A7 z A.1 H)!=I,A.2.2.1++([(B,D.1,A7 z A.1 C,false)]),G.1))<|none)<|dx (A.2.2.2,A.2.2.1,A.2.1)) (0,x.2.1.2.2.2.2.2,x.2.2.2.2.1,x.2.1.2.1)).bind (AF λJ:(List (List Int))×(List Ap)×Bool=>q (!J.2.2) (q (A1 (x.2.1.2.2.2.2.1.2.2.2.2.2+1)>x.2.1.2.2.2.2.1.2.2.1.1.1) (some (0,x.1,(x.2.1.1,J.1,x.2.1.2.2.1,false,([],([],0),((0,[]),[]),0,[],0),false),x.2.2.1,x.2.2.2.1,J.2.1,x.2.2.2.2.2))<|some (0,x.1,(x.2.1.1,J.1,x.2.1.2.2.1,x.2.1.2.2.2.1,(x.2.1.2.2.2.2.1.1,x.2.1.2.2.2.2.1.2.1,x.2.1.2.2.2.2.1.2.2.1,x.2.1.2.2.2.2.1.2.2.2.1,x.2.1.2.2.2.2.1.2.2.2.2.1,A1 (x.2.1.2.2.2.2.1.2.2.2.2.2+1)),J.2.2),x.2.2.1,x.2.2.2.1,J.2.1,x.2.2.2.2.2))<|some (0,x.1,(x.2.1.1,J.1,x.2.1.2.2.1,x.2.1.2.2.2.1,(x.2.1.2.2.2.2.1.1,x.2.1.2.2.2.2.1.2.1,x.2.1.2.2.2.2.1.2.2.1,x.2.1.2.2.2.2.1.2.2.2.1,x.2.1.2.2.2.2.1.2.2.2.2.1,A1 (x.2.1.2.2.2.2.1.2.2.2.2.2+1)),J.2.2),x.2.2.1,x.2.2.2.1,J.2.1,x.2.2.2.2.2))))))<|none)<|none
def F43:T43:=B43 std OQ OR zj zm qu cU
def S43 (F:T43):Nat×Be:=⟨43,1,[49],[(0,.ptr 0)],[zc 0 0 A5,zc 0 5 AO,zc 0 19 An,zc 0 31 ti,.cell 0 32 (.own Aj 177),zc 0 33 AK,zc 0 36 (.sl Ai),zc 0 37 AU,zc 0 47 ti,zc 0 48 ti],[r0 ti,zc 0 0 A5,zc 0 5 AO,zc 0 19 An,zc 0 31 ti,zc 0 32 (.sl Aj),zc 0 33 AK,zc 0 36 (.sl Ai),zc 0 37 AU,zc 0 47 ti,zc 0 48 ti],false,F⟩
abbrev kb:=((List Int)×Int)→Option Int
def zO (L:Lp):kb:=λx=>
 L.run (λa:Int=>q (a<ln x.1) (ib x.1 a λb=>q (b==x.2) (dn a)<|nx (A1 (a+1)))<|dn (-1)) 0
def sN:kb:=zO std
def sO (F:kb):=sq 125 2 [a0 li,a1 ti] [r0 ti] F
abbrev T85:=((List A6)×(List (List Int))×(List A0)×List Int)→Option (Ac×List Int)
def B85 (L:Lp) (a:kb) (b:sd) (c:jJ) (d:zB):T85:=λx=>
 (L.run (λe:(List Int)×Int×List Aa=>q (e.2.1<ln x.1) ((c (x.2.1,e.2.1)).bind λf=>(b (x.2.2.2,e.2.1)).bind λg=>(L.run (λh:Bool×Int=>q (h.2<ln x.2.2.1) (q h.1 (nx (true,A1 (h.2+1)))<|ib x.2.2.1 h.2 λi=>nx (f.1==i.2.1,A1 (h.2+1)))<|dx h.1) (g,0)).bind (AF λj:Bool=>q (f.1≥0) (q j (q (room e.1 [e.2.1]) (ib x.1 e.2.1 λk=>(d (x.2.2.1,k)).bind λl=>q (room e.2.2 ([l])) (nx (e.1++[e.2.1],A1 (e.2.1+1),e.2.2++([l])))<|none)<|none)<|nx (e.1,A1 (e.2.1+1),e.2.2))<|nx (e.1,A1 (e.2.1+1),e.2.2)))<|dx (e.1,e.2.2)) ([],0,[])).bind (AF λm:(List Int)×List Aa=>(L.run (λn:AC=>q (n.1<ln x.2.2.1) (ib x.2.2.1 n.1 λo=>q (room n.2 [o.2.1]) (nx (A1 (n.1+1),n.2++[o.2.1]))<|none)<|dx n.2) (0,[])).bind (AF λp:List Int=>L.run (λr:Int×List (List Int)=>q (r.1<ln x.2.1) ((L.run (λs:(List Int)×Int=>ib x.2.1 r.1 λt=>q (s.2<ln t) (ib x.2.1 r.1 λu=>ib u s.2 λv=>(a (m.1,v)).bind λw=>q (w≥0) (q (room s.1 [w]) (nx (s.1++[w],A1 (s.2+1)))<|none)<|nx (s.1,A1 (s.2+1)))<|dx s.1) ([],0)).bind (AF λy:List Int=>q (room r.2 [y]) (nx (A1 (r.1+1),r.2++[y]))<|none))<|dn ((m.2,p,r.2),m.1)) (0,[])))
def F85:T85:=B85 std sN ym cU zC
def S85 (F:T85):=sp 85 4 [a0 (.sl A9),a1 (.sl li),a2 (.sl A3),a3 li] [r0 AB,r1 li] F
abbrev dv:=Ac→Option Bool
def sP (L:Lp):dv:=λx=>
 q (ln x.1>96) (some false)<|q (ln x.2.1>16) (some false)<|q (ln x.2.2>24) (some false)<|(L.run (λa:Int=>q (a<ln x.1) (ib x.1 a λb=>q (b.1<0) (dn (.done false))<|q (b.1≥ln x.2.1) (dn (.done false))<|q (b.2.1<0) (dn (.done false))<|q (b.2.1≥32) (dn (.done false))<|q (b.2.2.1 != 0) (dn (.done false))<|q (b.2.2.2<1) (dn (.done false))<|q (b.2.2.2>400) (dn (.done false))<|nx (A1 (a+1)))<|dx ()) 0).bind (AF λc:PUnit=>(L.run (λd:Int=>q (d<ln x.2.1) (ib x.2.1 d λe=>q (e<0) (dn (.done false))<|ib x.2.1 d λf=>q (f≥ln x.2.2) (dn (.done false))<|L.run (λg:Int=>q (g<d) (ib x.2.1 g λh=>ib x.2.1 d λi=>q (h==i) (dn (.done (.done false)))<|nx (A1 (g+1)))<|dx (A1 (d+1))) 0)<|dx ()) 0).bind (AF λj:PUnit=>q (Dh (ln x.1)) ((L.run (λk:AC=>q (k.1<ln x.2.2) (L.run (λl:AC=>ib x.2.2 k.1 λm=>q (l.1<ln m) (ib x.2.2 k.1 λn=>ib n l.1 λo=>q (o<0) (dn (.done (.done false)))<|q (o≥ln l.2) (dn (.done (.done false)))<|ib l.2 o λp=>ib l.2 o λr=>nx (A1 (l.1+1),List.set l.2 (Int.toNat o) (A1 ((A7 l.2 o p)+1))))<|dx (A1 (k.1+1),l.2)) (0,k.2))<|dx k.2) (0,List.replicate (Int.toNat (ln x.1)) 0)).bind (AF λs:List Int=>L.run (λt:Int=>q (t<ln s) (ib s t λu=>q ((A7 s t u)!=1) (dn false)<|nx (A1 (t+1)))<|dn true) 0))<|none))
def dw:dv:=sP std
def ke (F:dv):=sq 126 1 [a0 AB] [r0 .bool] F
abbrev dy:=Ac→Option (List (Int×Int))
def sQ (L:Lp):dy:=λx=>
 q (Dh (ln x.1)) (L.run (λa:Int×List (Int×Int)=>q (a.1<ln x.2.2) (L.run (λb:Int×List (Int×Int)=>ib x.2.2 a.1 λc=>q (b.1<ln c) (ib x.2.2 a.1 λd=>ib d b.1 λe=>ib b.2 e λf=>nx (A1 (b.1+1),List.set b.2 (Int.toNat e) (a.1,b.1)))<|dx (A1 (a.1+1),b.2)) (0,a.2))<|dn a.2) (0,List.replicate (Int.toNat (ln x.1)) (0,0)))<|none
def dA:dy:=sQ std
def kf (F:dy):=sp 127 1 [a0 AB] [r0 (.sl (.pair ti ti))] F
abbrev XZ:=(Ac×(List (Int×Int))×Int)→Option Bool
def sR (L:Lp):XZ:=λx=>
 ib x.2.1 x.2.2 λa=>ib x.1.1 x.2.2 λb=>ib x.1.2.1 b.1 λc=>some (a.1==c)
def Y0:XZ:=sR std
def dB (F:XZ):=sq 196 3 [a0 AB,a1 (.sl (.pair ti ti)),a2 ti] [r0 .bool] F
abbrev UV:=((List (Int×Int))×Int×Int)→Option Bool
def sS (L:Lp):UV:=λx=>
 ib x.1 x.2.1 λa=>ib x.1 x.2.2 λb=>q (a.1==b.1) (ib x.1 x.2.1 λc=>ib x.1 x.2.2 λd=>some (decide (c.2>d.2)))<|some false
def UW:UV:=sS std
def Y1 (F:UV):=sq 198 3 [a0 (.sl (.pair ti ti)),a1 ti,a2 ti] [r0 .bool] F
abbrev UX:=(Ac×Int×Int)→Option Bool
def sT (L:Lp):UX:=λx=>
 ib x.1.1 x.2.1 λa=>ib x.1.1 x.2.2 λb=>q (a.1==b.1) (ib x.1.1 x.2.1 λc=>ib x.1.1 x.2.2 λd=>some (decide (c.2.1<d.2.1)))<|some false
def UY:UX:=sT std
def Y2 (F:UX):=sq 199 3 [a0 AB,a1 ti,a2 ti] [r0 .bool] F
abbrev dC:=(Ac×(List (Int×Int))×Int×Int)→Option Bool
def sU (L:Lp) (a:XZ) (b:UV) (c:UX):dC:=λx=>
 (a (x.1,x.2.1,x.2.2.1)).bind λd=>q d ((b (x.2.1,x.2.2.2,x.2.2.1)).bind λe=>q e ((c (x.1,x.2.2.2,x.2.2.1)).bind λf=>some f)<|some false)<|some false
def Y3:dC:=sU std Y0 UW UY
def kg (F:dC):=sq 197 4 [a0 AB,a1 (.sl (.pair ti ti)),a2 ti,a3 ti] [r0 .bool] F
abbrev dD:=(Ac×(List (Int×Int))×Int)→Option (Aa×Bool)
def sV (L:Lp) (a:XZ) (b:dC):dD:=λx=>
 (a x).bind λc=>q (!c) (some ((x.2.2,1,(-1),0),true))<|L.run (λd:Int=>q (d<ln x.1.1) ((b (x.1,x.2.1,x.2.2,d)).bind λe=>q e (dn ((x.2.2,3,d,0),true))<|nx (A1 (d+1)))<|dn ((0,0,0,0),false)) 0
def dE:dD:=sV std Y0 Y3
def kh (F:dD):=sq 128 3 [a0 AB,a1 (.sl (.pair ti ti)),a2 ti] [r0 Ai,r1 .bool] F
abbrev ki:=(Ac×(List (Int×Int))×(List Int)×Int×Int)→Option (Aa×Bool)
def sW (L:Lp) (a:UV) (b:UX):ki:=λx=>
 (L.run (λc:Int=>q (c<ln x.1.1) (ib x.2.2.1 c λd=>q (d≥0) (ib x.2.2.1 c λe=>q (e<x.2.2.2.2) ((a (x.2.1,x.2.2.2.1,c)).bind λf=>q f (dn (.done ((x.2.2.2.1,2,c,x.2.2.2.2),true)))<|nx (A1 (c+1)))<|nx (A1 (c+1)))<|nx (A1 (c+1)))<|dx ()) 0).bind (AF λg:PUnit=>L.run (λh:Int=>q (h<ln x.1.1) (ib x.2.2.1 h λi=>q (i≥0) (ib x.2.2.1 h λj=>q (j<x.2.2.2.2) ((b (x.1,h,x.2.2.2.1)).bind λk=>q k (dn ((x.2.2.2.1,3,h,x.2.2.2.2),true))<|nx (A1 (h+1)))<|nx (A1 (h+1)))<|nx (A1 (h+1)))<|dn ((0,0,0,0),false)) 0)
def kj:ki:=sW std UW UY
def sX (F:ki):=sq 129 5 [a0 AB,a1 (.sl (.pair ti ti)),a2 li,a3 ti,a4 ti] [r0 Ai,r1 .bool] F
abbrev T86:=Ac→Option Bb
def B86 (L:Lp) (a:dv) (b:dy) (c:dD) (d:ki):T86:=λx=>
 (a x).bind λe=>q (!e) (some ([],1))<|(b x).bind λf=>q (Dh (ln x.1)) (q (Dh (ln x.1)) ((L.run (λg:Int×(List Int)×List Aa=>q (g.1<ln g.2.1) (ib g.2.1 g.1 λh=>(c (x,f,g.1)).bind λi=>q i.2 (ib g.2.2 g.1 λj=>ib (List.set g.2.1 (Int.toNat g.1) (-1)) g.1 λk=>nx (A1 (g.1+1),List.set (List.set g.2.1 (Int.toNat g.1) (-1)) (Int.toNat g.1) 0,List.set g.2.2 (Int.toNat g.1) i.1))<|nx (A1 (g.1+1),List.set g.2.1 (Int.toNat g.1) (-1),g.2.2))<|dx (g.2.2,g.2.1)) (0,List.replicate (Int.toNat (ln x.1)) 0,List.replicate (Int.toNat (ln x.1)) (0,0,0,0))).bind (AF λl:(List Aa)×List Int=>(L.run (λm:Int×Bool×(List Aa)×List Int=>q m.2.1 (L.run (λn:Bool×Int×(List Int)×List Aa=>q (n.2.1<ln n.2.2.1) (ib n.2.2.1 n.2.1 λo=>q (A7 n.2.2.1 n.2.1 o≥0) (nx (n.1,A1 (n.2.1+1),n.2.2))<|(d (x,f,n.2.2.1,n.2.1,m.1)).bind λp=>q p.2 (ib n.2.2.2 n.2.1 λr=>ib n.2.2.1 n.2.1 λs=>nx (true,A1 (n.2.1+1),List.set n.2.2.1 (Int.toNat n.2.1) m.1,List.set n.2.2.2 (Int.toNat n.2.1) p.1))<|nx (n.1,A1 (n.2.1+1),n.2.2))<|dx (A1 (m.1+1),n.1,n.2.2.2,n.2.2.1)) (false,0,m.2.2.2,m.2.2.1))<|dx (m.2.2.2,m.2.2.1)) (1,true,l)).bind (AF λt:(List Int)×List Aa=>L.run (λu:Bb=>q (u.2<ln t.1) (ib t.1 u.2 λv=>q (A7 t.1 u.2 v≥0) (ib t.2 u.2 λw=>q (room u.1 ([((A7 t.2 u.2 w).1,((A7 t.2 u.2 w).2).1,(((A7 t.2 u.2 w).2).2).1,(((A7 t.2 u.2 w).2).2).2)])) (nx (u.1++([((A7 t.2 u.2 w).1,((A7 t.2 u.2 w).2).1,(((A7 t.2 u.2 w).2).2).1,(((A7 t.2 u.2 w).2).2).2)]),A1 (u.2+1)))<|none)<|nx (u.1,A1 (u.2+1)))<|dn (u.1,0)) ([],0))))<|none)<|none
def F86:T86:=B86 std dw dA dE kj
def S86 (F:T86):=sp 86 1 [a0 AB] [r0 (.sl Ai),r1 ti] F
abbrev km:=(Ac×(List (Int×Int))×(List Int)×Aa)→Option Bool
def sY (L:Lp) (a:XZ) (b:dC) (c:UV) (d:UX):km:=λx=>
 q (x.2.2.2.2.1==1) (q (x.2.2.2.2.2.1==(-1)) ((a (x.1,x.2.1,x.2.2.2.1)).bind λe=>some !e)<|some false)<|q (x.2.2.2.2.2.1<0) (some false)<|q (x.2.2.2.2.2.1≥ln x.1.1) (some false)<|ib x.2.2.1 x.2.2.2.2.2.1 λf=>q (f≥0) (ib x.2.2.1 x.2.2.2.2.2.1 λg=>q (x.2.2.2.2.1==2) (q (g<x.2.2.2.2.2.2) ((c (x.2.1,x.2.2.2.1,x.2.2.2.2.2.1)).bind λh=>some h)<|some false)<|q (x.2.2.2.2.1==3) (q (g<x.2.2.2.2.2.2) ((d (x.1,x.2.2.2.2.2.1,x.2.2.2.1)).bind λi=>q i (some true)<|q (x.2.2.2.2.2.2==0) ((b (x.1,x.2.1,x.2.2.2.1,x.2.2.2.2.2.1)).bind λj=>some j)<|some false)<|q (x.2.2.2.2.2.2==0) ((b (x.1,x.2.1,x.2.2.2.1,x.2.2.2.2.2.1)).bind λk=>some k)<|some false)<|some false)<|q (x.2.2.2.2.1==2) (some false)<|q (x.2.2.2.2.1==3) (q (x.2.2.2.2.2.2==0) ((b (x.1,x.2.1,x.2.2.2.1,x.2.2.2.2.2.1)).bind λl=>some l)<|some false)<|some false
def ko:km:=sY std Y0 Y3 UW UY
def sZ (F:km):=sq 200 4 [a0 AB,a1 (.sl (.pair ti ti)),a2 li,a3 Ai] [r0 .bool] F
abbrev kr:=(Ac×List Aa)→Option Bool
def t6 (L:Lp) (a:dy) (b:dD) (c:UV) (d:UX) (e:km):kr:=λx=>
 (a x.1).bind λf=>q (Dh (ln x.1.1)) ((L.run (λg:AC=>q (g.1<ln g.2) (ib g.2 g.1 λh=>nx (A1 (g.1+1),List.set g.2 (Int.toNat g.1) (-1)))<|dx g.2) (0,List.replicate (Int.toNat (ln x.1.1)) 0)).bind (AF λi:List Int=>(L.run (λj:AC=>q (j.1<ln x.2) (ib x.2 j.1 λk=>q (k.1<0) (dn (.done false))<|q (k.1≥ln j.2) (dn (.done false))<|ib j.2 k.1 λl=>q (A7 j.2 k.1 l≥0) (dn (.done false))<|ib x.2 j.1 λm=>q (m.2.2.2<0) (dn (.done false))<|ib x.2 j.1 λn=>ib j.2 k.1 λo=>nx (A1 (j.1+1),List.set j.2 (Int.toNat k.1) n.2.2.2))<|dx j.2) (0,i)).bind (AF λp:List Int=>(L.run (λr:Int=>q (r<ln x.2) (ib x.2 r λs=>(e (x.1,f,p,s)).bind λt=>q (!t) (dn (.done false))<|nx (A1 (r+1)))<|dx ()) 0).bind (AF λu:PUnit=>L.run (λv:Int=>q (v<ln p) (ib p v λw=>q (A7 p v w≥0) (nx (A1 (v+1)))<|(b (x.1,f,v)).bind λy=>q y.2 (dn false)<|L.run (λz:Int=>q (z<ln p) (ib p z λA=>q (A7 p z A≥0) ((c (f,v,z)).bind λB=>q B (dn (.done false))<|(d (x.1,z,v)).bind λC=>q C (dn (.done false))<|nx (A1 (z+1)))<|nx (A1 (z+1)))<|dx (A1 (v+1))) 0)<|dn true) 0))))<|none
def ku:kr:=t6 std dA dE UW UY ko
def t7 (F:kr):=sq 130 2 [a0 AB,a1 (.sl Ai)] [r0 .bool] F
abbrev kw:=Bb→Option Bool
def t8 (L:Lp):kw:=λx=>
 L.run (λa:Int=>q (a<ln x.1) (ib x.1 a λb=>q (b.1==x.2) (dn true)<|nx (A1 (a+1)))<|dn false) 0
def kx:kw:=t8 std
def ta (F:kw):=sq 131 2 [a0 (.sl Ai),a1 ti] [r0 .bool] F
abbrev T87:=(Ac×Bb)→Option (Bb×(List Int)×Int)
def B87 (L:Lp) (a:dv) (b:kr) (c:kw):T87:=λx=>
 (a x.1).bind λd=>q (!d) (some (([],0),[],1))<|q (x.2.2<0) (some (([],0),[],2))<|q (x.2.2>12) (some (([],0),[],2))<|(b (x.1,x.2.1)).bind λe=>q (!e) (some (([],0),[],17))<|L.run (λf:(List Int)×Int×List Aa=>q (f.2.1<ln x.1.2.2) (L.run (λg:(List Int)×Int×List Aa=>ib x.1.2.2 f.2.1 λh=>q (g.2.1<ln h) (ib x.1.2.2 f.2.1 λi=>ib i g.2.1 λj=>(c (x.2.1,j)).bind λk=>q k (ib x.1.1 j λl=>q (room g.2.2 ([l])) (q (room g.1 [j]) (nx (g.1++[j],A1 (g.2.1+1),g.2.2++([l])))<|none)<|none)<|nx (g.1,A1 (g.2.1+1),g.2.2))<|dx (g.1,A1 (f.2.1+1),g.2.2)) (f.1,0,f.2.2))<|dn ((f.2.2,x.2.2),f.1,0)) ([],0,[])
def F87:T87:=B87 std dw ku kx
def S87 (F:T87):=sp 87 3 [a0 AB,a1 (.sl Ai),a2 ti] [r0 Cx,r1 li,r2 ti] F
abbrev T44:=AR→Option (Int×AR)
def B44 (L:Lp) (a:US) (b:Sx) (c:zo) (d:sd) (e:jJ) (f:zu) (g:zy) (h:zD) (i:zK) (j:zN) (k:T85) (l:T86) (m:T87) (n:zI):T44:=λx=>
 q (!x.2.1.2.2.2.2.2) (some (16,x))<|(f x).bind λo=>q (!o.1) (some (2,o.2))<|(g o.2).bind λp=>q (!p.1) (some (17,p.2))<|(k (p.2.2.1.1,p.2.2.1.2.1,p.2.2.1.2.2.1,p.2.2.1.2.2.2.2.1.1)).bind λr=>q (ln r.2>96) (some (3,p.2))<|(l r.1).bind λs=>q ((ln s.1)==0) (some (0,p.2.1,(p.2.2.1.1,p.2.2.1.2.1,p.2.2.1.2.2.1,false,([],([],0),((0,[]),[]),0,[],0),false),p.2.2.2))<|(L.run (λt:Int×List Aa=>q (t.1<ln s.1) (ib s.1 t.1 λu=>ib r.2 u.1 λv=>q (u.2.2.1≥0) (ib r.2 u.2.2.1 λw=>q (room t.2 ([(v,u.2.1,w,u.2.2.2)])) (nx (A1 (t.1+1),t.2++([(v,u.2.1,w,u.2.2.2)])))<|none)<|q (room t.2 ([(v,u.2)])) (nx (A1 (t.1+1),t.2++([(v,u.2)])))<|none)<|dx t.2) (0,p.2.2.2.2.2.2.2.1)).bind (AF λy:List Aa=>(m (r.1,s.1,p.2.2.2.1.2.2.2.2.1)).bind λz=>(L.run (λA:(List Int)×Int=>q (A.2<ln z.2.1) (ib z.2.1 A.2 λB=>ib r.2 B λC=>q (room A.1 [C]) (nx (A.1++[C],A1 (A.2+1)))<|none)<|dx A.1) ([],0)).bind (AF λD:List Int=>(c p.2.2.1.2.1).bind λE=>(L.run (λG:Int×List (List Int)=>q (G.1<ln G.2) (L.run (λH:(List Int)×Int=>ib G.2 G.1 λI=>q (H.2<ln (A7 G.2 G.1 I)) (ib G.2 G.1 λJ=>ib (A7 G.2 G.1 J) H.2 λK=>(d (D,K)).bind λM=>q (!M) (ib G.2 G.1 λO=>ib (A7 G.2 G.1 O) H.2 λP=>q (room H.1 [P]) (nx (H.1++[P],A1 (H.2+1)))<|none)<|nx (H.1,A1 (H.2+1)))<|ib G.2 G.1 λQ=>dx (A1 (G.1+1),List.set G.2 (Int.toNat G.1) H.1)) ([],0))<|dx G.2) (0,E)).bind (AF λR:List (List Int)=>ib R p.2.2.2.1.2.1 λU=>(L.run (λV:Bool×Int=>q (V.2<ln p.2.2.2.1.2.2.2.2.2.1) (q V.1 (ib p.2.2.2.1.2.2.2.2.2.1 V.2 λW=>ib R W λX=>nx ((ln (A7 R W X))==0,A1 (V.2+1)))<|nx (false,A1 (V.2+1)))<|dx V.1) ((ln (A7 R p.2.2.2.1.2.1 U))==0,0)).bind (AF λY:Bool=>q (!Y) (some (17,p.2.1,p.2.2.1,p.2.2.2.1,p.2.2.2.2.1,p.2.2.2.2.2.1,p.2.2.2.2.2.2.1,y,p.2.2.2.2.2.2.2.2))<|ib p.2.1.1 p.2.2.2.1.2.1 λZ=>(n (p.2.2.1,D)).bind λaa=>q (aa>Z.2) (some (14,p.2.1,p.2.2.1,p.2.2.2.1,p.2.2.2.2.1,p.2.2.2.2.2.1,p.2.2.2.2.2.2.1,y,p.2.2.2.2.2.2.2.2))<|(h z.1).bind λab=>q (ab.2 != 0) (some (ab.2,p.2.1,p.2.2.1,p.2.2.2.1,p.2.2.2.2.1,p.2.2.2.2.2.1,p.2.2.2.2.2.2.1,y,p.2.2.2.2.2.2.2.2))<|(i (p.2.1,p.2.2.1,z.1,ab.1.1,p.2.2.2.1.2.2.2.2.2.1,R)).bind λac=>q (!ac) (some (14,p.2.1,p.2.2.1,p.2.2.2.1,p.2.2.2.2.1,p.2.2.2.2.2.1,p.2.2.2.2.2.2.1,y,p.2.2.2.2.2.2.2.2))<|(L.run (λad:Int×(List Ap)×List (List Int)=>q (ad.1<ln D) (ib D ad.1 λae=>(e (ad.2.2,A7 D ad.1 ae)).bind λaf=>(b p.2.2.1.1).bind λag=>(a (p.2.1.1,ag,ad.2.2,A7 D ad.1 ae,af.1,p.2.2.2.1.2.1,false)).bind λah=>q (ah.2 != 0) (nx (A1 (ad.1+1),ad.2))<|q (room ad.2.1 ([(A7 D ad.1 ae,af.1,p.2.2.2.1.2.1,false)])) (nx (A1 (ad.1+1),ad.2.1++([(A7 D ad.1 ae,af.1,p.2.2.2.1.2.1,false)]),ah.1))<|none)<|dx (ad.2.2,ad.2.1)) (0,p.2.2.2.2.2.1,p.2.2.1.2.1)).bind (AF λai:(List (List Int))×List Ap=>(j (D,z.1,ab.1,p.2.1,(p.2.2.1.1,ai.1,p.2.2.1.2.2),p.2.2.2.1,p.2.2.2.2.1,ai.2,p.2.2.2.2.2.2.1,y,p.2.2.2.2.2.2.2.2)).bind λaj=>some (0,aj))))))
def F44:T44:=B44 std OQ OR yk ym cU zx zz zH zL yv F85 F86 F87 zJ
def S44 (F:T44):Nat×Be:=⟨44,1,[49],[(0,.ptr 0)],[zc 0 0 A5,zc 0 5 AO,zc 0 19 An,zc 0 31 ti,.cell 0 32 (.own Aj 177),zc 0 33 AK,.cell 0 36 (.own Ai 170),zc 0 37 AU,zc 0 47 ti,zc 0 48 ti],[r0 ti,zc 0 0 A5,zc 0 5 AO,zc 0 19 An,zc 0 31 ti,zc 0 32 (.sl Aj),zc 0 33 AK,zc 0 36 (.sl Ai),zc 0 37 AU,zc 0 47 ti,zc 0 48 ti],false,F⟩
abbrev T89:=((List (List Int))×Int×Int×Int)→Option ((List Ap)×Int)
def B89 (L:Lp):T89:=λx=>
 q (x.2.1<0) (some ([],2))<|q (x.2.1≥ln x.1) (some ([],2))<|q (x.2.2.1<0) (some ([],2))<|q (x.2.2.1≥ln x.1) (some ([],2))<|q (x.2.1==x.2.2.1) (some ([],2))<|q (x.2.2.2<0) (some ([],13))<|ib x.1 x.2.1 λa=>q (x.2.2.2>ln a) (some ([],13))<|ib x.1 x.2.1 λb=>L.run (λc:(List Ap)×Int=>ib x.1 x.2.1 λd=>q (c.2<ln d) (ib x.1 x.2.1 λe=>ib e c.2 λf=>q (room c.1 ([(f,x.2.1,x.2.2.1,false)])) (nx (c.1++([(f,x.2.1,x.2.2.1,false)]),A1 (c.2+1)))<|none)<|dn (c.1,0)) ([],A1 ((ln b)-x.2.2.2))
def F89:T89:=B89 std
def S89 (F:T89):=sp 89 4 [a0 (.sl li),a1 ti,a2 ti,a3 ti] [r0 (.sl Aj),r1 ti] F
abbrev T45:=AR→Option (Int×AR)
def B45 (L:Lp) (a:US) (b:Sx) (c:sb) (d:yq) (e:jJ) (f:T89):T45:=λx=>
 q x.2.1.2.2.2.1 (some (25,x))<|(c (x.1,x.2.2.1.2.1)).bind λg=>q (!g) (some (2,x))<|(c (x.1,x.2.2.1.2.2.1)).bind λh=>q (!h) (some (2,x))<|q (x.2.2.1.2.1==x.2.2.1.2.2.1) (some (17,x))<|(d (x.2.1,x.2.2.1.2.1)).bind λi=>q i (some (17,x))<|(d (x.2.1,x.2.2.1.2.2.1)).bind λj=>q j (some (17,x))<|q (x.2.2.1.2.2.2.1<1) (some (13,x))<|ib x.2.1.2.1 x.2.2.1.2.1 λk=>q (x.2.2.1.2.2.2.1>ln k) (some (13,x))<|(f (x.2.1.2.1,x.2.2.1.2.1,x.2.2.1.2.2.1,x.2.2.1.2.2.2.1)).bind λl=>L.run (λm:Int×(List Ap)×List (List Int)=>q (m.1<ln l.1) (ib l.1 m.1 λn=>(e (m.2.2,n.1)).bind λo=>(b x.2.1.1).bind λp=>(a (x.1.1,p,m.2.2,n.1,o.1,x.2.2.1.2.2.1,false)).bind λr=>q (r.2 != 0) (dn (14,x.1,(x.2.1.1,m.2.2,x.2.1.2.2),x.2.2.1,x.2.2.2.1,m.2.1,x.2.2.2.2.2))<|q (room m.2.1 ([(n.1,o.1,x.2.2.1.2.2.1,false)])) (nx (A1 (m.1+1),m.2.1++([(n.1,o.1,x.2.2.1.2.2.1,false)]),r.1))<|none)<|dn (0,x.1,(x.2.1.1,m.2.2,x.2.1.2.2),x.2.2.1,x.2.2.2.1,m.2.1,x.2.2.2.2.2)) (0,x.2.2.2.2.1,x.2.1.2.1)
def F45:T45:=B45 std OQ OR qu zp cU F89
def S45 (F:T45):Nat×Be:=⟨45,1,[49],[(0,.ptr 0)],[zc 0 0 A5,zc 0 5 AO,zc 0 19 An,zc 0 31 ti,.cell 0 32 (.own Aj 177),zc 0 33 AK,zc 0 36 (.sl Ai),zc 0 37 AU,zc 0 47 ti,zc 0 48 ti],[r0 ti,zc 0 0 A5,zc 0 5 AO,zc 0 19 An,zc 0 31 ti,zc 0 32 (.sl Aj),zc 0 33 AK,zc 0 36 (.sl Ai),zc 0 37 AU,zc 0 47 ti,zc 0 48 ti],false,F⟩
abbrev kz:=(A2×A0×List A6)→Option Int
def tc (L:Lp) (a:ze) (b:rR) (c:zr):kz:=λx=>
 (a x.1).bind λd=>q (d != 0) (some d)<|(c (x.1,x.2.1)).bind λe=>q (!e) (some 1)<|(b x.2.2).bind λf=>some f
def td:kz:=tc std zf rS zt
def te (F:kz):=sq 132 3 [a0 A5,a1 A3,a2 (.sl A9)] [r0 ti] F
abbrev kA:=(A0×List A6)→Option ((List Int)×Int×Int)
def tf (L:Lp) (a:sj):kA:=λx=>
 L.run (λb:(List Int)×Int=>q (b.2<ln x.2) (ib x.2 b.2 λc=>(a (x.1,c.2.2.2.2.2.2.2)).bind λd=>q (d<0) (dn ([],b.2,7))<|q (room b.1 [d]) (nx (b.1++[d],A1 (b.2+1)))<|none)<|dn (b.1,(-1),0)) ([],0)
def tg:kA:=tf std yr
def th (F:kA):=sp 133 2 [a0 A3,a1 (.sl A9)] [r0 li,r1 ti,r2 ti] F
abbrev kB:=List A6→Option Aa
def tj (L:Lp) (a:rR):kB:=λx=>
 (a x).bind λb=>q (b != 0) (some (0,0,0,b))<|(L.run (λc:Aa=>q (c.2.2.2<ln x) (ib x c.2.2.2 λd=>ib x c.2.2.2 λe=>ib x c.2.2.2 λf=>nx (A1 (c.1+d.2.1),A1 (c.2.1+e.2.2.2.1),A1 (c.2.2.1+f.2.2.1),A1 (c.2.2.2+1)))<|dx (c.1,c.2.1,c.2.2.1)) (0,0,0,0)).bind (AF λg:Int×Int×Int=>some (g.1,g.2.1,g.2.2,0))
def kC:kB:=tj std rS
def tk (F:kB):=sq 253 1 [a0 (.sl A9)] [r0 ti,r1 ti,r2 ti,r3 ti] F
abbrev dF:=((List Int)×Int)→Option Bool
def tm (L:Lp):dF:=λx=>
 L.run (λa:Int=>q (a<ln x.1) (ib x.1 a λb=>q (b==x.2) (dn true)<|nx (A1 (a+1)))<|dn false) 0
def dG:dF:=tm std
def kD (F:dF):=sq 254 2 [a0 li,a1 ti] [r0 .bool] F
abbrev kE:=Int→Option Int
def tn (L:Lp):kE:=λx=>
 q (x≤5000) (some 100)<|q (x>7000) (some 80)<|some (A1 (100-(A1 (Int.tdiv (A1 ((A1 (x-5000))+99)) 100))))
def tp:kE:=tn std
def tq (F:kE):=sq 255 1 [a0 ti] [r0 ti] F
abbrev Y4:=((List A6)×List Int)→Option (Dk×Int)
def tu (L:Lp) (a:kB) (b:dF) (c:kE):Y4:=λx=>
 (a x.1).bind λd=>q (d.2.2.2 != 0) (some ((0,0,0,0,0,0,0),d.2.2.2))<|(L.run (λe:Int=>q (e<ln x.2) (ib x.2 e λf=>q (f<0) (dn (.done ((0,0,0,0,0,0,0),2)))<|ib x.2 e λg=>q (g≥ln x.1) (dn (.done ((0,0,0,0,0,0,0),2)))<|nx (A1 (e+1)))<|dx ()) 0).bind (AF λh:PUnit=>(L.run (λi:Int=>q (i<ln x.2) ((sub x.2 0 i).bind λj=>ib x.2 i λk=>(b (j,k)).bind λl=>q l (dn (.done ((0,0,0,0,0,0,0),8)))<|nx (A1 (i+1)))<|dx ()) 0).bind (AF λm:PUnit=>(L.run (λn:Int×Int=>q (n.1<ln x.1) ((b (x.2,n.1)).bind λo=>q (!o) (ib x.1 n.1 λp=>nx (A1 (n.1+1),A1 (n.2+p.2.2.2.2.1)))<|nx (A1 (n.1+1),n.2))<|dx n.2) (0,0)).bind (AF λr:Int=>(c d.1).bind λs=>q (d.2.1>0) (q (d.2.1 != 0) (some ((d.1,d.2.2.1,d.2.1,A1 (Int.tdiv (A1 (r*s)) 100),A1 (Int.tdiv (A1 (100*(A1 (Int.tdiv (A1 (r*s)) 100)))) d.2.1),0,0),0))<|none)<|some ((d.1,d.2.2.1,d.2.1,A1 (Int.tdiv (A1 (r*s)) 100),0,0,0),0))))
def Y5:Y4:=tu std kC dG tp
def dH (F:Y4):=sq 201 2 [a0 (.sl A9),a1 li] [r0 CS,r1 ti] F
abbrev kF:=((List (Int×Int×Int))×Int×Int)→Option (Int×Bool)
def tv (L:Lp):kF:=λx=>
 L.run (λa:Int×Bool×Int=>q (a.2.2<ln x.1) (ib x.1 a.2.2 λb=>q (b.1≥x.2.1) (ib x.1 a.2.2 λc=>q (c.2.1≥x.2.2) (q (!a.2.1) (ib x.1 a.2.2 λd=>nx (d.2.2,true,A1 (a.2.2+1)))<|ib x.1 a.2.2 λe=>q (e.2.2<a.1) (ib x.1 a.2.2 λf=>nx (f.2.2,true,A1 (a.2.2+1)))<|nx (a.1,a.2.1,A1 (a.2.2+1)))<|nx (a.1,a.2.1,A1 (a.2.2+1)))<|nx (a.1,a.2.1,A1 (a.2.2+1)))<|dn (a.1,a.2.1)) (0,false,0)
def tw:kF:=tv std
def tx (F:kF):=sq 256 3 [a0 (.sl (.pair ti (.pair ti ti))),a1 ti,a2 ti] [r0 ti,r1 .bool] F
abbrev kG:=((List (Int×Int×Int))×Int×Int)→Option (Int×Int)
def tz (L:Lp) (a:kF) (b:zb):kG:=λx=>
 (b x.1).bind λc=>q (!c) (some (0,1))<|q (x.2.1<1) (some (0,2))<|q (x.2.1>200) (some (0,2))<|q (x.2.2<0) (some (0,2))<|q (x.2.2>500) (some (0,2))<|(a x).bind λd=>q (!d.2) (some (0,15))<|some (d.1,0)
def tA:kG:=tz std tw zd
def tB (F:kG):=sq 202 3 [a0 (.sl (.pair ti (.pair ti ti))),a1 ti,a2 ti] [r0 ti,r1 ti] F
abbrev kH:=((List A6)×(List Int)×(List (Int×Int×Int))×Int×Int)→Option (Dk×Int)
def tC (L:Lp) (a:Y4) (b:kG):kH:=λx=>
 (a (x.1,x.2.1)).bind λc=>q (c.2 != 0) (some ((0,0,0,0,0,0,0),c.2))<|(b x.2.2).bind λd=>q (d.2 != 0) (some ((0,0,0,0,0,0,0),d.2))<|some ((c.1.1,c.1.2.1,c.1.2.2.1,c.1.2.2.2.1,c.1.2.2.2.2.1,d.1,max 0 (A1 ((A1 (Int.tdiv (A1 ((A1 (d.1*c.1.2.2.1))+99)) 100))-c.1.2.2.2.1))),0)
def tD:kH:=tC std Y5 tA
def tE (F:kH):=sq 134 5 [a0 (.sl A9),a1 li,a2 (.sl (.pair ti (.pair ti ti))),a3 ti,a4 ti] [r0 CS,r1 ti] F
abbrev kI:=(Int×A6)→Option Int
def tF (L:Lp):kI:=λx=>
 q (x.1==1) (some x.2.2.1)<|q (x.1==2) (some x.2.2.2.1)<|some x.2.2.2.2.1
def tG:kI:=tF std
def tH (F:kI):=sq 288 2 [a0 ti,a1 A9] [r0 ti] F
abbrev kJ:=(A6×A6×Int×Int)→Option Bool
def tI (L:Lp):kJ:=λx=>
 q (x.1.2.2.2.2.2.1==x.2.2.1) (q (x.2.1.2.2.2.2.2.1==x.2.2.2) (some true)<|q (x.1.2.2.2.2.2.1==x.2.2.2) (some (x.2.1.2.2.2.2.2.1==x.2.2.1))<|some false)<|q (x.1.2.2.2.2.2.1==x.2.2.2) (some (x.2.1.2.2.2.2.2.1==x.2.2.1))<|some false
def tJ:kJ:=tI std
def tK (F:kJ):=sq 289 4 [a0 A9,a1 A9,a2 ti,a3 ti] [r0 .bool] F
abbrev kK:=(Ba×(List A6)×Int)→Option Bool
def tL (L:Lp) (a:kI) (b:kJ):kK:=λx=>
 (q (x.1.2.1==1) (nx true)<|q (x.1.2.1==2) (nx true)<|q (x.1.2.1==3) (nx true)<|nx false).bind (AF λc:Bool=>q c (L.run (λd:Int×Int=>q (d.2≤x.2.2) (ib x.2.1 d.2 λe=>(a (x.1.2.1,e)).bind λf=>nx (A1 (d.1+f),A1 (d.2+1)))<|dn (decide (d.1>x.1.2.2.1))) (0,0))<|q (x.1.2.1==5) (L.run (λg:Int=>q (g<x.2.2) (ib x.2.1 g λh=>ib x.2.1 x.2.2 λi=>(b (h,i,x.1.2.2.1,x.1.2.2.2.1)).bind λj=>q j (q (A1 ((A1 (x.2.2-g))-1)<x.1.2.2.2.2) (dn true)<|nx (A1 (g+1)))<|nx (A1 (g+1)))<|dn false) 0)<|q (x.1.2.1==6) (ib x.2.1 x.2.2 λk=>q (k.2.2.2.2.2.1==x.1.2.2.1) (some (decide (x.2.2<x.1.2.2.2.1)))<|some false)<|q (x.1.2.1==8) (ib x.2.1 x.2.2 λl=>ib x.2.1 x.2.2 λm=>some (decide (l.2.2.2.1>A1 (x.1.2.2.1*m.2.2.1))))<|q (x.1.2.1==9) ((L.run (λn:Int×Int=>q (n.2<ln x.2.1) (ib x.2.1 n.2 λo=>nx (A1 (n.1+o.2.2.2.1),A1 (n.2+1)))<|dx n.1) (0,A1 (x.2.2+1))).bind (AF λp:Int=>ib x.2.1 x.2.2 λr=>q (r.2.2.2.1≤x.1.2.2.1) (some (decide (p>x.1.2.2.2.1)))<|some false))<|some false)
def kL:kK:=tL std tG tJ
def tM (F:kK):=sq 257 3 [a0 BW,a1 (.sl A9),a2 ti] [r0 .bool] F
abbrev kM:=(Ba×(List A6)×List Int)→Option Int
def tN (L:Lp) (a:Y4) (b:dF) (c:kK):kM:=λx=>
 (q (x.1.2.1==4) ((a x.2).bind λd=>q (ln x.2.1>0) (q (d.1.2.2.2.2.1<x.1.2.2.1) (dn (ln x.2.1))<|dn (-1))<|dn (-1))<|q (x.1.2.1==7) ((L.run (λe:Int×Int=>q (e.2<ln x.2.1) (ib x.2.1 e.2 λf=>q (f.2.2.2.2.1>0) ((b (x.2.2,e.2)).bind λg=>q (!g) (nx (A1 (e.1+1),A1 (e.2+1)))<|nx (e.1,A1 (e.2+1)))<|nx (e.1,A1 (e.2+1)))<|dx e.1) (0,A1 ((ln x.2.1)-(min x.1.2.2.1 (ln x.2.1))))).bind (AF λh:Int=>q (h<(min x.1.2.2.2.1 (min x.1.2.2.1 (ln x.2.1)))) (dn (ln x.2.1))<|dn (-1)))<|nx ()).bind (AF λi:PUnit=>L.run (λj:Int=>q (j<ln x.2.1) ((c (x.1,x.2.1,j)).bind λk=>q k (dn j)<|nx (A1 (j+1)))<|dn (-1)) 0)
def kN:kM:=tN std Y5 dG kL
def tO (F:kM):=sq 203 3 [a0 BW,a1 (.sl A9),a2 li] [r0 ti] F
abbrev kO:=((List Ba)×(List A6)×List Int)→Option (Int×Int×Int)
def tP (L:Lp) (a:Y4) (b:kM) (c:z8):kO:=λx=>
 (c x.1).bind λd=>q (d != 0) (some (0,0,d))<|(a x.2).bind λe=>q (e.2 != 0) (some (0,0,e.2))<|L.run (λf:Int=>q (f<ln x.1) (ib x.1 f λg=>(b (g,x.2)).bind λh=>q (h≥0) (ib x.1 f λi=>dn (i.1,h,0))<|nx (A1 (f+1)))<|dn (0,(-1),0)) 0
def tQ:kO:=tP std Y5 kN za
def tR (F:kO):=sq 135 3 [a0 (.sl BW),a1 (.sl A9),a2 li] [r0 ti,r1 ti,r2 ti] F
abbrev kP:=((List Int)×Int)→Option Bool
def tS (L:Lp):kP:=λx=>
 L.run (λa:Int=>q (a<ln x.1) (ib x.1 a λb=>q (b<0) (dn false)<|ib x.1 a λc=>q (c≥x.2) (dn false)<|nx (A1 (a+1)))<|dn true) 0
def tU:kP:=tS std
def tV (F:kP):=sq 204 2 [a0 li,a1 ti] [r0 .bool] F
abbrev kQ:=((List Int)×Int)→Option (Int×Int)
def tW (L:Lp):kQ:=λx=>
 L.run (λa:Int×Int×Bool×Int=>q (a.2.2.2<ln x.1) (ib x.1 a.2.2.2 λb=>q (b==x.2) (q (!a.2.2.1) (nx (A1 (a.1+1),A1 (a.2.1+1),true,A1 (a.2.2.2+1)))<|nx (A1 (a.1+1),a.2.1,true,A1 (a.2.2.2+1)))<|ib x.1 a.2.2.2 λc=>q (c>x.2) (nx (a.1,a.2.1,false,A1 (a.2.2.2+1)))<|nx (a.1,a.2.1,a.2.2.1,A1 (a.2.2.2+1)))<|dn (a.1,a.2.1)) (0,0,false,0)
def tX:kQ:=tW std
def tY (F:kQ):=sq 205 2 [a0 li,a1 ti] [r0 ti,r1 ti] F
abbrev kR:=((List Int)×Int)→Option ((List (Int×Int×Int))×Int)
def tZ (L:Lp) (a:kP) (b:kQ):kR:=λx=>
 q (x.2<0) (some ([],2))<|q (x.2>16) (some ([],2))<|q (ln x.1>96) (some ([],3))<|(a x).bind λc=>q (!c) (some ([],2))<|L.run (λd:(List (Int×Int×Int))×Int=>q (d.2<x.2) ((b (x.1,d.2)).bind λe=>q (e.1>0) (q (room d.1 ([(d.2,e)])) (nx (d.1++([(d.2,e)]),A1 (d.2+1)))<|none)<|nx (d.1,A1 (d.2+1)))<|dn (d.1,0)) ([],0)
def kS:kR:=tZ std tU tX
def u4 (F:kR):=sp 136 2 [a0 li,a1 ti] [o0 (.pair ti (.pair ti ti)) 282,r1 ti] F
abbrev T90:=(A2×A0×List A6)→Option (Gt×Int×Int×Int)
def B90 (L:Lp) (a:kz) (b:kA) (c:kH) (d:kO) (e:kR):T90:=λx=>
 (a x).bind λf=>q (f != 0) (some (([],[],(0,0,0,0,0,0,0),[]),0,0,f))<|q ((ln x.2.2)==0) (some (([],[],(0,0,0,0,0,0,0),[]),0,0,13))<|(b x.2).bind λg=>q (g.2.2 != 0) (some (([],[],(0,0,0,0,0,0,0),[]),0,g.2))<|(L.run (λh:(List Int)×Int=>q (h.2<ln g.1) (q (h.2>0) (ib g.1 h.2 λi=>ib g.1 (A1 (h.2-1)) λj=>q (i<j) (dn (.done (([],[],(0,0,0,0,0,0,0),[]),0,h.2,12)))<|ib g.1 h.2 λk=>q (room h.1 ([A1 ((A1 ((ln x.2.1.2.2)-1))-k)])) (nx (h.1++([A1 ((A1 ((ln x.2.1.2.2)-1))-k)]),A1 (h.2+1)))<|none)<|ib g.1 h.2 λl=>q (room h.1 ([A1 ((A1 ((ln x.2.1.2.2)-1))-l)])) (nx (h.1++([A1 ((A1 ((ln x.2.1.2.2)-1))-l)]),A1 (h.2+1)))<|none)<|dx h.1) ([],0)).bind (AF λm:List Int=>(c (x.2.2,[],x.1.2.2)).bind λn=>q (n.2 != 0) (some (([],[],(0,0,0,0,0,0,0),[]),0,0,n.2))<|(d (x.1.2.1,x.2.2,[])).bind λo=>q (o.1 != 0) (some (([],[],(0,0,0,0,0,0,0),[]),o.1,o.2.1,20))<|q (n.1.2.2.2.2.2.2 != 0) (some (([],[],(0,0,0,0,0,0,0),[]),0,ln x.2.2,20))<|q (room [] x.2.2) ((e (m,ln x.2.1.2.2)).bind λp=>some ((x.2.1.1,[]++x.2.2,n.1,p.1),0,0,0))<|none)
def F90:T90:=B90 std td tg tD tQ kS
def S90 (F:T90):=sp 90 3 [a0 A5,a1 A3,a2 (.sl A9)] [r0 AU,r1 ti,r2 ti,r3 ti] F
abbrev T46:=(A2×(List A6)×(List (List Int))×(List A0)×Bool×Ab×Bool×Ah×Ag)→Option (Int×A2×(List A6)×(List (List Int))×(List A0)×Bool×Ab×Bool×Ah×Ag)
def B46 (L:Lp) (a:US) (b:Sx) (c:jJ) (d:T90):T46:=λx=>
 q x.2.2.2.2.1 (some (25,x))<|L.run (λe:Int=>q (e<ln x.2.2.2.1) (ib x.2.2.2.1 e λf=>q (!(((A7 x.2.2.2.1 e f).1)==x.2.2.2.2.2.2.2.1.2.2.2.2.2.2.2.2.1)) (nx (A1 (e+1)))<|ib x.2.2.1 (((A7 x.2.2.2.1 e f).2).1) λg=>q (room [] g) ((L.run (λh:(List A6)×Int=>q (h.2<ln ([]++g)) (ib ([]++g) h.2 λi=>ib x.2.1 (A7 ([]++g) h.2 i) λj=>q (room h.1 ([j])) (nx (h.1++([j]),A1 (h.2+1)))<|none)<|dx h.1) ([],0)).bind (AF λk:List A6=>(d (x.1,((A7 x.2.2.2.1 e f).1,((A7 x.2.2.2.1 e f).2).1,((A7 x.2.2.2.1 e f).2).2),k)).bind λl=>q (l.2.2.2 != 0) (dn (l.2.2.2,x.1,x.2.1,x.2.2.1,x.2.2.2.1,x.2.2.2.2.1,x.2.2.2.2.2.1,x.2.2.2.2.2.2.1,x.2.2.2.2.2.2.2.1,x.2.2.2.2.2.2.2.2.1,x.2.2.2.2.2.2.2.2.2.1,x.2.2.2.2.2.2.2.2.2.2.1,x.2.2.2.2.2.2.2.2.2.2.2.1,x.2.2.2.2.2.2.2.2.2.2.2.2.1,l.2.1,l.2.2.1))<|(L.run (λm:Int×(List Ap)×List (List Int)=>q (m.1<ln ([]++g)) (ib ([]++g) m.1 λn=>(c (m.2.2,A7 ([]++g) m.1 n)).bind λo=>(b x.2.1).bind λp=>(a (x.1.1,p,m.2.2,A7 ([]++g) m.1 n,o.1,(-1),false)).bind λr=>q (r.2 != 0) (nx (A1 (m.1+1),m.2))<|q (room m.2.1 ([(A7 ([]++g) m.1 n,o.1,(-1),false)])) (nx (A1 (m.1+1),m.2.1++([(A7 ([]++g) m.1 n,o.1,(-1),false)]),r.1))<|none)<|dx (m.2.2,m.2.1)) (0,x.2.2.2.2.2.2.2.2.2.1,x.2.2.1)).bind (AF λs:(List (List Int))×List Ap=>q (q (0≤e) (q (e≤e) (decide (e≤ln x.2.2.2.1))<|false)<|false) (q (q (0≤A1 (e+1)) (q (A1 (e+1)≤ln x.2.2.2.1) (decide (ln x.2.2.2.1≤ln x.2.2.2.1))<|false)<|false) (q (q (Nat.beq (CZ e 0) (CZ e 0)) (room (part x.2.2.2.1 (Int.toNat 0) (CZ e 0)) (part x.2.2.2.1 (Int.toNat (A1 (e+1))) (CZ (ln x.2.2.2.1) (A1 (e+1)))))<|false) (dn (0,x.1,x.2.1,s.1,(part x.2.2.2.1 (Int.toNat 0) (CZ e 0))++(part x.2.2.2.1 (Int.toNat (A1 (e+1))) (CZ (ln x.2.2.2.1) (A1 (e+1)))),x.2.2.2.2.1,x.2.2.2.2.2.1,x.2.2.2.2.2.2.1,x.2.2.2.2.2.2.2.1,x.2.2.2.2.2.2.2.2.1,s.2,x.2.2.2.2.2.2.2.2.2.2.1,x.2.2.2.2.2.2.2.2.2.2.2.1,l.1,x.2.2.2.2.2.2.2.2.2.2.2.2.2))<|none)<|none)<|none)))<|none)<|dn (7,x)) 0
def F46:T46:=B46 std OQ OR cU F90
def S46 (F:T46):Nat×Be:=⟨46,1,[49],[(0,.ptr 0)],[zc 0 0 A5,zc 0 5 (.sl A9),zc 0 6 (.sl li),.cell 0 7 (.own A3 80),zc 0 8 .bool,zc 0 9 Ae,zc 0 18 .bool,zc 0 19 An,zc 0 31 ti,.cell 0 32 (.own Aj 177),zc 0 33 AK,zc 0 36 (.sl Ai),zc 0 37 AU,zc 0 47 ti,zc 0 48 ti],[r0 ti,zc 0 0 A5,zc 0 5 (.sl A9),zc 0 6 (.sl li),zc 0 7 (.sl A3),zc 0 8 .bool,zc 0 9 Ae,zc 0 18 .bool,zc 0 19 An,zc 0 31 ti,zc 0 32 (.sl Aj),zc 0 33 AK,zc 0 36 (.sl Ai),zc 0 37 AU,zc 0 47 ti,zc 0 48 ti],false,F⟩
abbrev T21:=(A2×AH×Ah)→Option (AH×Ag)
def B21 (L:Lp) (a:T40) (b:T41) (c:T42) (d:T43) (e:T44) (f:T45) (g:T46) (h:zo):T21:=λx=>
 q (room [] x.2.1.1) ((h x.2.1.2.1).bind λi=>L.run (λj:(List A0)×Int=>q (j.2<ln x.2.1.2.2.1) (ib x.2.1.2.2.1 j.2 λk=>q (room [] k.2.2) (q (room j.1 ([(k.1,k.2.1,[]++k.2.2)])) (nx (j.1++([(k.1,k.2.1,[]++k.2.2)]),A1 (j.2+1)))<|none)<|none)<|q (room [] x.2.1.2.2.2.2.1.1) (q (room [] x.2.1.2.2.2.2.1.2.2.2.2.1) (q (room [] x.2.1.2.2.2.2.1.2.1.1) (q (room [] x.2.1.2.2.2.2.1.2.2.1.1.2) (q (room [] x.2.1.2.2.2.2.1.2.2.1.2) ((q (x.2.2.1==1) ((a (x.1,[]++x.2.1.1,i,j.1,x.2.1.2.2.2.1,([]++x.2.1.2.2.2.2.1.1,([]++x.2.1.2.2.2.2.1.2.1.1,x.2.1.2.2.2.2.1.2.1.2),((x.2.1.2.2.2.2.1.2.2.1.1.1,[]++x.2.1.2.2.2.2.1.2.2.1.1.2),[]++x.2.1.2.2.2.2.1.2.2.1.2),x.2.1.2.2.2.2.1.2.2.2.1,[]++x.2.1.2.2.2.2.1.2.2.2.2.1,x.2.1.2.2.2.2.1.2.2.2.2.2),x.2.1.2.2.2.2.2,x.2.2,0,[],((0,[]),[]),[],([],[],(0,0,0,0,0,0,0),[]),0,0)).bind λl=>q (l.1 != 0) (q (room [] x.2.1.1) ((h x.2.1.2.1).bind λm=>L.run (λn:(List A0)×Int=>q (n.2<ln x.2.1.2.2.1) (ib x.2.1.2.2.1 n.2 λo=>q (room [] o.2.2) (q (room n.1 ([(o.1,o.2.1,[]++o.2.2)])) (nx (n.1++([(o.1,o.2.1,[]++o.2.2)]),A1 (n.2+1)))<|none)<|none)<|q (room [] x.2.1.2.2.2.2.1.1) (q (room [] x.2.1.2.2.2.2.1.2.2.2.2.1) (q (room [] x.2.1.2.2.2.2.1.2.1.1) (q (room [] x.2.1.2.2.2.2.1.2.2.1.1.2) (q (room [] x.2.1.2.2.2.2.1.2.2.1.2) (dn (([]++x.2.1.1,m,n.1,x.2.1.2.2.2.1,([]++x.2.1.2.2.2.2.1.1,([]++x.2.1.2.2.2.2.1.2.1.1,x.2.1.2.2.2.2.1.2.1.2),((x.2.1.2.2.2.2.1.2.2.1.1.1,[]++x.2.1.2.2.2.2.1.2.2.1.1.2),[]++x.2.1.2.2.2.2.1.2.2.1.2),x.2.1.2.2.2.2.1.2.2.2.1,[]++x.2.1.2.2.2.2.1.2.2.2.2.1,x.2.1.2.2.2.2.1.2.2.2.2.2),x.2.1.2.2.2.2.2),l.1,[],((0,[]),[]),[],([],[],(0,0,0,0,0,0,0),[]),l.2.2.2.2.2.2.2.2.2.2.2.2.2.2))<|none)<|none)<|none)<|none)<|none) ([],0))<|none)<|some ((l.2.2.1,l.2.2.2.1,l.2.2.2.2.1,l.2.2.2.2.2.1,l.2.2.2.2.2.2.1,l.2.2.2.2.2.2.2.1),l.2.2.2.2.2.2.2.2.2))<|q (x.2.2.1==2) ((b (x.1,[]++x.2.1.1,i,j.1,x.2.1.2.2.2.1,([]++x.2.1.2.2.2.2.1.1,([]++x.2.1.2.2.2.2.1.2.1.1,x.2.1.2.2.2.2.1.2.1.2),((x.2.1.2.2.2.2.1.2.2.1.1.1,[]++x.2.1.2.2.2.2.1.2.2.1.1.2),[]++x.2.1.2.2.2.2.1.2.2.1.2),x.2.1.2.2.2.2.1.2.2.2.1,[]++x.2.1.2.2.2.2.1.2.2.2.2.1,x.2.1.2.2.2.2.1.2.2.2.2.2),x.2.1.2.2.2.2.2,x.2.2,0,[],((0,[]),[]),[],([],[],(0,0,0,0,0,0,0),[]),0,0)).bind λp=>q (p.1 != 0) (q (room [] x.2.1.1) ((h x.2.1.2.1).bind λr=>L.run (λs:(List A0)×Int=>q (s.2<ln x.2.1.2.2.1) (ib x.2.1.2.2.1 s.2 λt=>q (room [] t.2.2) (q (room s.1 ([(t.1,t.2.1,[]++t.2.2)])) (nx (s.1++([(t.1,t.2.1,[]++t.2.2)]),A1 (s.2+1)))<|none)<|none)<|q (room [] x.2.1.2.2.2.2.1.1) (q (room [] x.2.1.2.2.2.2.1.2.2.2.2.1) (q (room [] x.2.1.2.2.2.2.1.2.1.1) (q (room [] x.2.1.2.2.2.2.1.2.2.1.1.2) (q (room [] x.2.1.2.2.2.2.1.2.2.1.2) (dn (([]++x.2.1.1,r,s.1,x.2.1.2.2.2.1,([]++x.2.1.2.2.2.2.1.1,([]++x.2.1.2.2.2.2.1.2.1.1,x.2.1.2.2.2.2.1.2.1.2),((x.2.1.2.2.2.2.1.2.2.1.1.1,[]++x.2.1.2.2.2.2.1.2.2.1.1.2),[]++x.2.1.2.2.2.2.1.2.2.1.2),x.2.1.2.2.2.2.1.2.2.2.1,[]++x.2.1.2.2.2.2.1.2.2.2.2.1,x.2.1.2.2.2.2.1.2.2.2.2.2),x.2.1.2.2.2.2.2),p.1,[],((0,[]),[]),[],([],[],(0,0,0,0,0,0,0),[]),p.2.2.2.2.2.2.2.2.2.2.2.2.2.2))<|none)<|none)<|none)<|none)<|none) ([],0))<|none)<|some ((p.2.2.1,p.2.2.2.1,p.2.2.2.2.1,p.2.2.2.2.2.1,p.2.2.2.2.2.2.1,p.2.2.2.2.2.2.2.1),p.2.2.2.2.2.2.2.2.2))<|q (x.2.2.1==3) ((c (x.1,([]++x.2.1.1,i,j.1,x.2.1.2.2.2.1,([]++x.2.1.2.2.2.2.1.1,([]++x.2.1.2.2.2.2.1.2.1.1,x.2.1.2.2.2.2.1.2.1.2),((x.2.1.2.2.2.2.1.2.2.1.1.1,[]++x.2.1.2.2.2.2.1.2.2.1.1.2),[]++x.2.1.2.2.2.2.1.2.2.1.2),x.2.1.2.2.2.2.1.2.2.2.1,[]++x.2.1.2.2.2.2.1.2.2.2.2.1,x.2.1.2.2.2.2.1.2.2.2.2.2),x.2.1.2.2.2.2.2),x.2.2,0,[],((0,[]),[]),[],([],[],(0,0,0,0,0,0,0),[]),0,0)).bind λu=>q (u.1 != 0) (q (room [] x.2.1.1) ((h x.2.1.2.1).bind λv=>L.run (λw:(List A0)×Int=>q (w.2<ln x.2.1.2.2.1) (ib x.2.1.2.2.1 w.2 λy=>q (room [] y.2.2) (q (room w.1 ([(y.1,y.2.1,[]++y.2.2)])) (nx (w.1++([(y.1,y.2.1,[]++y.2.2)]),A1 (w.2+1)))<|none)<|none)<|q (room [] x.2.1.2.2.2.2.1.1) (q (room [] x.2.1.2.2.2.2.1.2.2.2.2.1) (q (room [] x.2.1.2.2.2.2.1.2.1.1) (q (room [] x.2.1.2.2.2.2.1.2.2.1.1.2) (q (room [] x.2.1.2.2.2.2.1.2.2.1.2) (dn (([]++x.2.1.1,v,w.1,x.2.1.2.2.2.1,([]++x.2.1.2.2.2.2.1.1,([]++x.2.1.2.2.2.2.1.2.1.1,x.2.1.2.2.2.2.1.2.1.2),((x.2.1.2.2.2.2.1.2.2.1.1.1,[]++x.2.1.2.2.2.2.1.2.2.1.1.2),[]++x.2.1.2.2.2.2.1.2.2.1.2),x.2.1.2.2.2.2.1.2.2.2.1,[]++x.2.1.2.2.2.2.1.2.2.2.2.1,x.2.1.2.2.2.2.1.2.2.2.2.2),x.2.1.2.2.2.2.2),u.1,[],((0,[]),[]),[],([],[],(0,0,0,0,0,0,0),[]),u.2.2.2.2.2.2.2.2.2))<|none)<|none)<|none)<|none)<|none) ([],0))<|none)<|some (u.2.2.1,u.2.2.2.2))<|q (x.2.2.1==4) ((d (x.1,([]++x.2.1.1,i,j.1,x.2.1.2.2.2.1,([]++x.2.1.2.2.2.2.1.1,([]++x.2.1.2.2.2.2.1.2.1.1,x.2.1.2.2.2.2.1.2.1.2),((x.2.1.2.2.2.2.1.2.2.1.1.1,[]++x.2.1.2.2.2.2.1.2.2.1.1.2),[]++x.2.1.2.2.2.2.1.2.2.1.2),x.2.1.2.2.2.2.1.2.2.2.1,[]++x.2.1.2.2.2.2.1.2.2.2.2.1,x.2.1.2.2.2.2.1.2.2.2.2.2),x.2.1.2.2.2.2.2),x.2.2,0,[],((0,[]),[]),[],([],[],(0,0,0,0,0,0,0),[]),0,0)).bind λz=>q (z.1 != 0) (q (room [] x.2.1.1) ((h x.2.1.2.1).bind λA=>L.run (λB:(List A0)×Int=>q (B.2<ln x.2.1.2.2.1) (ib x.2.1.2.2.1 B.2 λC=>q (room [] C.2.2) (q (room B.1 ([(C.1,C.2.1,[]++C.2.2)])) (nx (B.1++([(C.1,C.2.1,[]++C.2.2)]),A1 (B.2+1)))<|none)<|none)<|q (room [] x.2.1.2.2.2.2.1.1) (q (room [] x.2.1.2.2.2.2.1.2.2.2.2.1) (q (room [] x.2.1.2.2.2.2.1.2.1.1) (q (room [] x.2.1.2.2.2.2.1.2.2.1.1.2) (q (room [] x.2.1.2.2.2.2.1.2.2.1.2) (dn (([]++x.2.1.1,A,B.1,x.2.1.2.2.2.1,([]++x.2.1.2.2.2.2.1.1,([]++x.2.1.2.2.2.2.1.2.1.1,x.2.1.2.2.2.2.1.2.1.2),((x.2.1.2.2.2.2.1.2.2.1.1.1,[]++x.2.1.2.2.2.2.1.2.2.1.1.2),[]++x.2.1.2.2.2.2.1.2.2.1.2),x.2.1.2.2.2.2.1.2.2.2.1,[]++x.2.1.2.2.2.2.1.2.2.2.2.1,x.2.1.2.2.2.2.1.2.2.2.2.2),x.2.1.2.2.2.2.2),z.1,[],((0,[]),[]),[],([],[],(0,0,0,0,0,0,0),[]),z.2.2.2.2.2.2.2.2.2))<|none)<|none)<|none)<|none)<|none) ([],0))<|none)<|some (z.2.2.1,z.2.2.2.2))<|q (x.2.2.1==5) ((e (x.1,([]++x.2.1.1,i,j.1,x.2.1.2.2.2.1,([]++x.2.1.2.2.2.2.1.1,([]++x.2.1.2.2.2.2.1.2.1.1,x.2.1.2.2.2.2.1.2.1.2),((x.2.1.2.2.2.2.1.2.2.1.1.1,[]++x.2.1.2.2.2.2.1.2.2.1.1.2),[]++x.2.1.2.2.2.2.1.2.2.1.2),x.2.1.2.2.2.2.1.2.2.2.1,[]++x.2.1.2.2.2.2.1.2.2.2.2.1,x.2.1.2.2.2.2.1.2.2.2.2.2),x.2.1.2.2.2.2.2),x.2.2,0,[],((0,[]),[]),[],([],[],(0,0,0,0,0,0,0),[]),0,0)).bind λD=>q (D.1 != 0) (q (room [] x.2.1.1) ((h x.2.1.2.1).bind λE=>L.run (λG:(List A0)×Int=>q (G.2<ln x.2.1.2.2.1) (ib x.2.1.2.2.1 G.2 λH=>q (room [] H.2.2) (q (room G.1 ([(H.1,H.2.1,[]++H.2.2)])) (nx (G.1++([(H.1,H.2.1,[]++H.2.2)]),A1 (G.2+1)))<|none)<|none)<|q (room [] x.2.1.2.2.2.2.1.1) (q (room [] x.2.1.2.2.2.2.1.2.2.2.2.1) (q (room [] x.2.1.2.2.2.2.1.2.1.1) (q (room [] x.2.1.2.2.2.2.1.2.2.1.1.2) (q (room [] x.2.1.2.2.2.2.1.2.2.1.2) (dn (([]++x.2.1.1,E,G.1,x.2.1.2.2.2.1,([]++x.2.1.2.2.2.2.1.1,([]++x.2.1.2.2.2.2.1.2.1.1,x.2.1.2.2.2.2.1.2.1.2),((x.2.1.2.2.2.2.1.2.2.1.1.1,[]++x.2.1.2.2.2.2.1.2.2.1.1.2),[]++x.2.1.2.2.2.2.1.2.2.1.2),x.2.1.2.2.2.2.1.2.2.2.1,[]++x.2.1.2.2.2.2.1.2.2.2.2.1,x.2.1.2.2.2.2.1.2.2.2.2.2),x.2.1.2.2.2.2.2),D.1,[],((0,[]),[]),[],([],[],(0,0,0,0,0,0,0),[]),D.2.2.2.2.2.2.2.2.2))<|none)<|none)<|none)<|none)<|none) ([],0))<|none)<|some (D.2.2.1,D.2.2.2.2))<|q (x.2.2.1==6) ((f (x.1,([]++x.2.1.1,i,j.1,x.2.1.2.2.2.1,([]++x.2.1.2.2.2.2.1.1,([]++x.2.1.2.2.2.2.1.2.1.1,x.2.1.2.2.2.2.1.2.1.2),((x.2.1.2.2.2.2.1.2.2.1.1.1,[]++x.2.1.2.2.2.2.1.2.2.1.1.2),[]++x.2.1.2.2.2.2.1.2.2.1.2),x.2.1.2.2.2.2.1.2.2.2.1,[]++x.2.1.2.2.2.2.1.2.2.2.2.1,x.2.1.2.2.2.2.1.2.2.2.2.2),x.2.1.2.2.2.2.2),x.2.2,0,[],((0,[]),[]),[],([],[],(0,0,0,0,0,0,0),[]),0,0)).bind λI=>q (I.1 != 0) (q (room [] x.2.1.1) ((h x.2.1.2.1).bind λJ=>L.run (λK:(List A0)×Int=>q (K.2<ln x.2.1.2.2.1) (ib x.2.1.2.2.1 K.2 λM=>q (room [] M.2.2) (q (room K.1 ([(M.1,M.2.1,[]++M.2.2)])) (nx (K.1++([(M.1,M.2.1,[]++M.2.2)]),A1 (K.2+1)))<|none)<|none)<|q (room [] x.2.1.2.2.2.2.1.1) (q (room [] x.2.1.2.2.2.2.1.2.2.2.2.1) (q (room [] x.2.1.2.2.2.2.1.2.1.1) (q (room [] x.2.1.2.2.2.2.1.2.2.1.1.2) (q (room [] x.2.1.2.2.2.2.1.2.2.1.2) (dn (([]++x.2.1.1,J,K.1,x.2.1.2.2.2.1,([]++x.2.1.2.2.2.2.1.1,([]++x.2.1.2.2.2.2.1.2.1.1,x.2.1.2.2.2.2.1.2.1.2),((x.2.1.2.2.2.2.1.2.2.1.1.1,[]++x.2.1.2.2.2.2.1.2.2.1.1.2),[]++x.2.1.2.2.2.2.1.2.2.1.2),x.2.1.2.2.2.2.1.2.2.2.1,[]++x.2.1.2.2.2.2.1.2.2.2.2.1,x.2.1.2.2.2.2.1.2.2.2.2.2),x.2.1.2.2.2.2.2),I.1,[],((0,[]),[]),[],([],[],(0,0,0,0,0,0,0),[]),I.2.2.2.2.2.2.2.2.2))<|none)<|none)<|none)<|none)<|none) ([],0))<|none)<|some (I.2.2.1,I.2.2.2.2))<|q (x.2.2.1==7) ((g (x.1,[]++x.2.1.1,i,j.1,x.2.1.2.2.2.1,([]++x.2.1.2.2.2.2.1.1,([]++x.2.1.2.2.2.2.1.2.1.1,x.2.1.2.2.2.2.1.2.1.2),((x.2.1.2.2.2.2.1.2.2.1.1.1,[]++x.2.1.2.2.2.2.1.2.2.1.1.2),[]++x.2.1.2.2.2.2.1.2.2.1.2),x.2.1.2.2.2.2.1.2.2.2.1,[]++x.2.1.2.2.2.2.1.2.2.2.2.1,x.2.1.2.2.2.2.1.2.2.2.2.2),x.2.1.2.2.2.2.2,x.2.2,0,[],((0,[]),[]),[],([],[],(0,0,0,0,0,0,0),[]),0,0)).bind λO=>q (O.1 != 0) (q (room [] x.2.1.1) ((h x.2.1.2.1).bind λP=>L.run (λQ:(List A0)×Int=>q (Q.2<ln x.2.1.2.2.1) (ib x.2.1.2.2.1 Q.2 λR=>q (room [] R.2.2) (q (room Q.1 ([(R.1,R.2.1,[]++R.2.2)])) (nx (Q.1++([(R.1,R.2.1,[]++R.2.2)]),A1 (Q.2+1)))<|none)<|none)<|q (room [] x.2.1.2.2.2.2.1.1) (q (room [] x.2.1.2.2.2.2.1.2.2.2.2.1) (q (room [] x.2.1.2.2.2.2.1.2.1.1) (q (room [] x.2.1.2.2.2.2.1.2.2.1.1.2) (q (room [] x.2.1.2.2.2.2.1.2.2.1.2) (dn (([]++x.2.1.1,P,Q.1,x.2.1.2.2.2.1,([]++x.2.1.2.2.2.2.1.1,([]++x.2.1.2.2.2.2.1.2.1.1,x.2.1.2.2.2.2.1.2.1.2),((x.2.1.2.2.2.2.1.2.2.1.1.1,[]++x.2.1.2.2.2.2.1.2.2.1.1.2),[]++x.2.1.2.2.2.2.1.2.2.1.2),x.2.1.2.2.2.2.1.2.2.2.1,[]++x.2.1.2.2.2.2.1.2.2.2.2.1,x.2.1.2.2.2.2.1.2.2.2.2.2),x.2.1.2.2.2.2.2),O.1,[],((0,[]),[]),[],([],[],(0,0,0,0,0,0,0),[]),O.2.2.2.2.2.2.2.2.2.2.2.2.2.2))<|none)<|none)<|none)<|none)<|none) ([],0))<|none)<|some ((O.2.2.1,O.2.2.2.1,O.2.2.2.2.1,O.2.2.2.2.2.1,O.2.2.2.2.2.2.1,O.2.2.2.2.2.2.2.1),O.2.2.2.2.2.2.2.2.2))<|q (room [] x.2.1.1) ((h x.2.1.2.1).bind λU=>L.run (λV:(List A0)×Int=>q (V.2<ln x.2.1.2.2.1) (ib x.2.1.2.2.1 V.2 λW=>q (room [] W.2.2) (q (room V.1 ([(W.1,W.2.1,[]++W.2.2)])) (nx (V.1++([(W.1,W.2.1,[]++W.2.2)]),A1 (V.2+1)))<|none)<|none)<|q (room [] x.2.1.2.2.2.2.1.1) (q (room [] x.2.1.2.2.2.2.1.2.2.2.2.1) (q (room [] x.2.1.2.2.2.2.1.2.1.1) (q (room [] x.2.1.2.2.2.2.1.2.2.1.1.2) (q (room [] x.2.1.2.2.2.2.1.2.2.1.2) (dn (([]++x.2.1.1,U,V.1,x.2.1.2.2.2.1,([]++x.2.1.2.2.2.2.1.1,([]++x.2.1.2.2.2.2.1.2.1.1,x.2.1.2.2.2.2.1.2.1.2),((x.2.1.2.2.2.2.1.2.2.1.1.1,[]++x.2.1.2.2.2.2.1.2.2.1.1.2),[]++x.2.1.2.2.2.2.1.2.2.1.2),x.2.1.2.2.2.2.1.2.2.2.1,[]++x.2.1.2.2.2.2.1.2.2.2.2.1,x.2.1.2.2.2.2.1.2.2.2.2.2),x.2.1.2.2.2.2.2),1,[],((0,[]),[]),[],([],[],(0,0,0,0,0,0,0),[]),0,0))<|none)<|none)<|none)<|none)<|none) ([],0))<|none).bind λX=>dn X)<|none)<|none)<|none)<|none)<|none) ([],0))<|none
def F21:T21:=B21 std F40 F41 F42 F43 F44 F45 F46 yk
def S21 (F:T21):=sp 21 3 [a0 A5,a1 AO,a2 An] [r0 AO,r1 AP] F
abbrev T6:=(A2×Int×(List Int)×Int)→Option ((List Ah)×(List Int)×Int)
def B6 (L:Lp) (a:UR) (b:T19) (c:T20) (d:T21):T6:=λx=>
 (b x.1).bind λe=>q (e.2 != 0) (some ([],x.2.2))<|(L.run (λf:(List Ah)×Int×(List A6)×(List (List Int))×(List A0)×Bool×(List Int)×(List Aa)×Int×Int×(List Int)×(List Int)×Int×(List Int)×Int×Bool×AC=>q (f.2.1<3) (q (x.2.1>3) ((c (x.1,(f.2.2.1,f.2.2.2.1,f.2.2.2.2.1,f.2.2.2.2.2.1,(f.2.2.2.2.2.2.1,(f.2.2.2.2.2.2.2.1,f.2.2.2.2.2.2.2.2.1),((f.2.2.2.2.2.2.2.2.2.1,f.2.2.2.2.2.2.2.2.2.2.1),f.2.2.2.2.2.2.2.2.2.2.2.1),f.2.2.2.2.2.2.2.2.2.2.2.2.1,f.2.2.2.2.2.2.2.2.2.2.2.2.2.1,f.2.2.2.2.2.2.2.2.2.2.2.2.2.2.1),f.2.2.2.2.2.2.2.2.2.2.2.2.2.2.2.1),ln f.2.2.1,f.2.2.2.2.2.2.2.2.2.2.2.2.2.2.2.2.2,f.2.2.2.2.2.2.2.2.2.2.2.2.2.2.2.2.1)).bind λg=>ib ([(2,0,0,0,0,[],[],([120,49],A1 ((ln x.1.1)-1),[[98],[97]]),[],[]),(2,0,0,0,0,[],[],([120,50],A1 ((ln x.1.1)-2),[[99],[100]]),[],[]),g.1]) f.2.1 λh=>(d (x.1,(f.2.2.1,f.2.2.2.1,f.2.2.2.2.1,f.2.2.2.2.2.1,(f.2.2.2.2.2.2.1,(f.2.2.2.2.2.2.2.1,f.2.2.2.2.2.2.2.2.1),((f.2.2.2.2.2.2.2.2.2.1,f.2.2.2.2.2.2.2.2.2.2.1),f.2.2.2.2.2.2.2.2.2.2.2.1),f.2.2.2.2.2.2.2.2.2.2.2.2.1,f.2.2.2.2.2.2.2.2.2.2.2.2.2.1,f.2.2.2.2.2.2.2.2.2.2.2.2.2.2.1),f.2.2.2.2.2.2.2.2.2.2.2.2.2.2.2.1),h)).bind λi=>q (room f.1 ([h])) (nx (f.1++([h]),A1 (f.2.1+1),i.1.1,i.1.2.1,i.1.2.2.1,i.1.2.2.2.1,i.1.2.2.2.2.1.1,i.1.2.2.2.2.1.2.1.1,i.1.2.2.2.2.1.2.1.2,i.1.2.2.2.2.1.2.2.1.1.1,i.1.2.2.2.2.1.2.2.1.1.2,i.1.2.2.2.2.1.2.2.1.2,i.1.2.2.2.2.1.2.2.2.1,i.1.2.2.2.2.1.2.2.2.2.1,i.1.2.2.2.2.1.2.2.2.2.2,i.1.2.2.2.2.2,g.2.2,g.2.1))<|none)<|dx (f.1,f.2.2.2.2.2.2.2.2.2.2.2.2.2.2.2.2.2,f.2.2.2.2.2.2.2.2.2.2.2.2.2.2.2.2.1,f.2.2.2.2.2.2.2.2.2.2.2.2.2.2.2.1,f.2.2.2.2.2.2.2.2.2.2.2.2.2.2.1,f.2.2.2.2.2.2.2.2.2.2.2.2.2.1,f.2.2.2.2.2.2.2.2.2.2.2.2.1,f.2.2.2.2.2.2.2.2.2.2.2.1,f.2.2.2.2.2.2.2.2.2.2.1,f.2.2.2.2.2.2.2.2.2.1,f.2.2.2.2.2.2.2.2.1,f.2.2.2.2.2.2.2.1,f.2.2.2.2.2.2.1,f.2.2.2.2.2.1,f.2.2.2.2.1,f.2.2.2.1,f.2.2.1))<|dx (f.1,f.2.2.2.2.2.2.2.2.2.2.2.2.2.2.2.2.2,f.2.2.2.2.2.2.2.2.2.2.2.2.2.2.2.2.1,f.2.2.2.2.2.2.2.2.2.2.2.2.2.2.2.1,f.2.2.2.2.2.2.2.2.2.2.2.2.2.2.1,f.2.2.2.2.2.2.2.2.2.2.2.2.2.1,f.2.2.2.2.2.2.2.2.2.2.2.2.1,f.2.2.2.2.2.2.2.2.2.2.2.1,f.2.2.2.2.2.2.2.2.2.2.1,f.2.2.2.2.2.2.2.2.2.1,f.2.2.2.2.2.2.2.2.1,f.2.2.2.2.2.2.2.1,f.2.2.2.2.2.2.1,f.2.2.2.2.2.1,f.2.2.2.2.1,f.2.2.2.1,f.2.2.1)) ([],0,e.1.1,e.1.2.1,e.1.2.2.1,e.1.2.2.2.1,e.1.2.2.2.2.1.1,e.1.2.2.2.2.1.2.1.1,e.1.2.2.2.2.1.2.1.2,e.1.2.2.2.2.1.2.2.1.1.1,e.1.2.2.2.2.1.2.2.1.1.2,e.1.2.2.2.2.1.2.2.1.2,e.1.2.2.2.2.1.2.2.2.1,e.1.2.2.2.2.1.2.2.2.2.1,e.1.2.2.2.2.1.2.2.2.2.2,e.1.2.2.2.2.2,x.2.2.2,x.2.2.1)).bind (AF λj:(List Ah)×(List Int)×Int×Bool×Int×(List Int)×Int×(List Int)×(List Int)×Int×Int×(List Aa)×(List Int)×Bool×(List A0)×(List (List Int))×List A6=>(a (A1 (x.2.1+1),j.2.1,j.2.2.1)).bind λk=>L.run (λl:(List Ah)×Int×(List A6)×(List (List Int))×(List A0)×Bool×(List Int)×(List Aa)×Int×Int×(List Int)×(List Int)×Int×(List Int)×Int×Bool×AC=>q (l.2.1>0) ((c (x.1,(l.2.2.1,l.2.2.2.1,l.2.2.2.2.1,l.2.2.2.2.2.1,(l.2.2.2.2.2.2.1,(l.2.2.2.2.2.2.2.1,l.2.2.2.2.2.2.2.2.1),((l.2.2.2.2.2.2.2.2.2.1,l.2.2.2.2.2.2.2.2.2.2.1),l.2.2.2.2.2.2.2.2.2.2.2.1),l.2.2.2.2.2.2.2.2.2.2.2.2.1,l.2.2.2.2.2.2.2.2.2.2.2.2.2.1,l.2.2.2.2.2.2.2.2.2.2.2.2.2.2.1),l.2.2.2.2.2.2.2.2.2.2.2.2.2.2.2.1),ln l.2.2.1,l.2.2.2.2.2.2.2.2.2.2.2.2.2.2.2.2.2,l.2.2.2.2.2.2.2.2.2.2.2.2.2.2.2.2.1)).bind λm=>(d (x.1,(l.2.2.1,l.2.2.2.1,l.2.2.2.2.1,l.2.2.2.2.2.1,(l.2.2.2.2.2.2.1,(l.2.2.2.2.2.2.2.1,l.2.2.2.2.2.2.2.2.1),((l.2.2.2.2.2.2.2.2.2.1,l.2.2.2.2.2.2.2.2.2.2.1),l.2.2.2.2.2.2.2.2.2.2.2.1),l.2.2.2.2.2.2.2.2.2.2.2.2.1,l.2.2.2.2.2.2.2.2.2.2.2.2.2.1,l.2.2.2.2.2.2.2.2.2.2.2.2.2.2.1),l.2.2.2.2.2.2.2.2.2.2.2.2.2.2.2.1),m.1)).bind λn=>q (room l.1 ([m.1])) (nx (l.1++([m.1]),A1 (l.2.1-1),n.1.1,n.1.2.1,n.1.2.2.1,n.1.2.2.2.1,n.1.2.2.2.2.1.1,n.1.2.2.2.2.1.2.1.1,n.1.2.2.2.2.1.2.1.2,n.1.2.2.2.2.1.2.2.1.1.1,n.1.2.2.2.2.1.2.2.1.1.2,n.1.2.2.2.2.1.2.2.1.2,n.1.2.2.2.2.1.2.2.2.1,n.1.2.2.2.2.1.2.2.2.2.1,n.1.2.2.2.2.1.2.2.2.2.2,n.1.2.2.2.2.2,m.2.2,m.2.1))<|none)<|dn (l.1,l.2.2.2.2.2.2.2.2.2.2.2.2.2.2.2.2.2,l.2.2.2.2.2.2.2.2.2.2.2.2.2.2.2.2.1)) (j.1,k.1,j.2.2.2.2.2.2.2.2.2.2.2.2.2.2.2.2,j.2.2.2.2.2.2.2.2.2.2.2.2.2.2.2.1,j.2.2.2.2.2.2.2.2.2.2.2.2.2.2.1,j.2.2.2.2.2.2.2.2.2.2.2.2.2.1,j.2.2.2.2.2.2.2.2.2.2.2.2.1,j.2.2.2.2.2.2.2.2.2.2.2.1,j.2.2.2.2.2.2.2.2.2.2.1,j.2.2.2.2.2.2.2.2.2.1,j.2.2.2.2.2.2.2.2.1,j.2.2.2.2.2.2.2.1,j.2.2.2.2.2.2.1,j.2.2.2.2.2.1,j.2.2.2.2.1,j.2.2.2.1,k.2.2,k.2.1))
def F6:T6:=B6 std U5 F19 F20 F21
def S6 (F:T6):Nat×Be:=⟨6,3,[2],[(0,.ptr 0)],[a1 A5,a2 ti,zc 0 0 li,zc 0 1 ti],[r0 (.sl An),zc 0 0 li,zc 0 1 ti],false,F⟩
abbrev zQ:=List UInt8→Option Bool
def B50 (L:Lp):zQ:=λx=>
 (L.run (λa:Int=>q (a<ln x) (ib x a λb=>q (Di b<97) (ib x a λc=>q (Di c<48) (dn (.done false))<|ib x a λd=>q (Di d>57) (dn (.done false))<|nx (A1 (a+1)))<|ib x a λe=>q (Di e>122) (ib x a λf=>q (Di f<48) (dn (.done false))<|ib x a λg=>q (Di g>57) (dn (.done false))<|nx (A1 (a+1)))<|nx (A1 (a+1)))<|dx ()) 0).bind (AF λh:PUnit=>q (ln x≥1) (some (decide (ln x≤12)))<|some false)
def yw:zQ:=B50 std
def S50 (F:zQ):=sq 50 1 [a0 .str] [r0 .bool] F
abbrev kT:=Ba→Option Bool
def u5 (L:Lp):kT:=λx=>
 (L.run (λa:Int=>q (a<ln ([x.2.2.1,x.2.2.2.1,x.2.2.2.2])) (ib ([x.2.2.1,x.2.2.2.1,x.2.2.2.2]) a λb=>q (A7 ([x.2.2.1,x.2.2.2.1,x.2.2.2.2]) a b<0) (dn (.done false))<|q (A7 ([x.2.2.1,x.2.2.2.1,x.2.2.2.2]) a b>1000000) (dn (.done false))<|nx (A1 (a+1)))<|dx ()) 0).bind (AF λc:PUnit=>q (x.1≥1) (q (x.1≤9999) (q (x.2.1≥1) (some (decide (x.2.1≤9)))<|some false)<|some false)<|some false)
def kU:kT:=u5 std
def u6 (F:kT):=sq 101 1 [a0 BW] [r0 .bool] F
abbrev Ij:=((List Ba)×Ba)→Option (Int×Ba)
def MF (L:Lp):Ij:=λx=>
 L.run (λa:Int=>q (a<ln x.1) (ib x.1 a λb=>q (b.1==x.2.1) (dn (a,x.2))<|nx (A1 (a+1)))<|dn ((-1),x.2)) 0
def MG:Ij:=MF std
def MH (F:Ij):Nat×Be:=⟨167,2,[5],[(1,.fn 103 [] [.ptr 0])],[a0 (.sl BW),zc 0 0 ti,zc 0 1 ti,zc 0 2 ti,zc 0 3 ti,zc 0 4 ti],[r0 ti,zc 0 0 ti,zc 0 1 ti,zc 0 2 ti,zc 0 3 ti,zc 0 4 ti],false,F⟩
abbrev Ik:=((List Ba)×Ba)→Option (Bool×Ba)
def MI (L:Lp) (a:Ij):Ik:=λx=>
 (a x).bind λb=>some (decide (b.1≥0),b.2)
def Il:Ik:=MI std MG
def MJ (F:Ik):Nat×Be:=⟨102,2,[5],[(1,.fn 103 [] [.ptr 0])],[a0 (.sl BW),zc 0 0 ti,zc 0 1 ti,zc 0 2 ti,zc 0 3 ti,zc 0 4 ti],[r0 .bool,zc 0 0 ti,zc 0 1 ti,zc 0 2 ti,zc 0 3 ti,zc 0 4 ti],false,F⟩
abbrev zR:=List Ba→Option Int
def B51 (L:Lp) (a:kT) (b:Ik):zR:=λx=>
 q (ln x>32) (some 3)<|L.run (λc:Int=>q (c<ln x) (ib x c λd=>(a d).bind λe=>q (!e) (dn 1)<|(sub x 0 c).bind λf=>(b (f,d)).bind λg=>q g.1 (dn 8)<|nx (A1 (c+1)))<|dn 0) 0
def zS:zR:=B51 std kU Il
def S51 (F:zR):=sq 51 1 [a0 (.sl BW)] [r0 ti] F
abbrev zT:=(List (Int×Int×Int))→Option Bool
def B52 (L:Lp):zT:=λx=>
 L.run (λa:Int=>q (a<ln x) (ib x a λb=>q (b.1≥1) (q (!(b.1≤200)) (dn false)<|q (b.2.1≥0) (q (!(b.2.1≤500)) (dn false)<|q (b.2.2≥0) (q (!(b.2.2≤250)) (dn false)<|nx (A1 (a+1)))<|dn false)<|dn false)<|dn false)<|dn (decide (ln x≤64))) 0
def zU:zT:=B52 std
def S52 (F:zT):=sq 52 1 [a0 (.sl (.pair ti (.pair ti ti)))] [r0 .bool] F
abbrev u7:=A2→Option Int
def B24 (L:Lp) (a:zQ) (b:zR) (c:zT):u7:=λx=>
 q (ln x.1<1) (some 1)<|q (ln x.1>24) (some 1)<|q (x.2.2.2.1<1) (some 1)<|q (x.2.2.2.1>200) (some 1)<|q (x.2.2.2.2<0) (some 1)<|q (x.2.2.2.2>500) (some 1)<|(L.run (λd:Int×List ((List UInt8)×Bool)=>q (d.1<ln x.1) (ib x.1 d.1 λe=>(a e.1).bind λf=>q (!f) (dn (.done 1))<|q (Ss d.2 e.1 false) (dn (.done 1))<|q (e.2<1) (dn (.done 1))<|q (e.2>100000) (dn (.done 1))<|nx (A1 (d.1+1),H9 d.2 e.1 true))<|dx d.2) (0,[])).bind (AF λg:List ((List UInt8)×Bool)=>(b x.2.1).bind λh=>q (h != 0) (some h)<|(c x.2.2.1).bind λi=>q (!i) (some 1)<|some 0)
def ua:u7:=B24 std yw zS zU
def yx (F:u7):=sq 24 1 [a0 A5] [r0 ti] F
abbrev T22:=A2→Option (AH×Int)
def B22 (L:Lp) (a:u7):T22:=λx=>
 (a x).bind λb=>q (b != 0) (some (([],[],[],false,([],([],0),((0,[]),[]),0,[],0),false),b))<|q (Dh (ln x.1)) (some (([],List.replicate (Int.toNat (ln x.1)) [],[],false,([],([],0),((0,[]),[]),0,[],0),false),0))<|none
def F22:T22:=B22 std ua
def S22 (F:T22):=sp 22 1 [a0 A5] [r0 AO,r1 ti] F
abbrev kV:=List Int→Option (List Int)
def W5:kV:=λx=>bif Nat.ble x.length 4294967296 then some x else none
def qv (F:kV):Be:=⟨1,[],[],[a0 li],[o0 ti 3],false,F⟩
abbrev zV:=List A6→Option (List A6)
def qx:zV:=λx=>bif Nat.ble x.length 4294967296 then some x else none
def S27 (F:zV):Be:=⟨1,[],[],[a0 (.sl A9)],[o0 A9 60],false,F⟩
abbrev kW:=((List A0)×Int×Int)→Option (List A0)
def UZ:kW:=λx=>bif decide (0≤x.2.1)&&(decide (x.2.1≤x.2.2)&&decide (x.2.2≤ln x.1)) then some (x.1.take x.2.1.toNat++x.1.drop x.2.2.toNat) else none
def ub (F:kW):Be:=⟨3,[],[],[.slot 0 (.own A3 80),a1 ti,a2 ti],[o0 A3 80],false,F⟩
abbrev MK:=((List Int)×Int)→Option Int
def zW (L:Lp):MK:=λx=>
 L.run (λa:Int=>q (a<ln x.1) (ib x.1 a λb=>q (x.2==b) (dn a)<|nx (A1 (a+1)))<|dn (-1)) 0
def ML:MK:=zW std
def OS (F:MK):=sq 217 2 [a0 li,a1 ti] [r0 ti] F
abbrev dI:=((List (List Int))×Int)→Option (Int×Int)
def zX (L:Lp) (a:MK):dI:=λx=>
 L.run (λb:Int=>q (b<ln x.1) (ib x.1 b λc=>(a (c,x.2)).bind λd=>q (d≥0) (dn (b,d))<|nx (A1 (b+1)))<|dn ((-1),(-1))) 0
def kX:dI:=zX std ML
def kY (F:dI):=sq 232 2 [a0 (.sl li),a1 ti] [r0 ti,r1 ti] F
abbrev kZ:=((List ((List UInt8)×Int))×(List Int)×(List (List Int))×List Ap)→Option ((List (List Int))×Int×Int)
def Y6:kZ:=λx=>open Classical in if Dc x.1 x.2.1 x.2.2.1∧x.2.2.2.length≤100000 then some (match BJ x.1 x.2.1 x.2.2.2 0 x.2.2.1 with | .inl (i,c)=>([],i,c) | .inr b=>(b,(x.2.2.2.length:Int),0)) else none
def uc (F:kZ):Be:=⟨4,[],[],[a0 (.sl (.pair .str ti)),a1 li,a2 (.sl li),a3 (.sl Aj)],[o0 li 22,r1 ti,r2 ti],false,F⟩
abbrev Sy:=((List Ap)×AR)→Option (Int×AR)
def ud (L:Lp) (a:kZ):Sy:=λx=>
 (L.run (λb:(List Int)×Int=>q (b.2<ln x.2.2.1.1) (ib x.2.2.1.1 b.2 λc=>q (room b.1 [c.2.1]) (nx (b.1++[c.2.1],A1 (b.2+1)))<|none)<|dx b.1) ([],0)).bind (AF λd:List Int=>(a (x.2.1.1,d,x.2.2.1.2.1,x.1)).bind λe=>q (e.2.2 != 0) (some (e.2.2,x.2))<|some (0,x.2.1,(x.2.2.1.1,e.1,x.2.2.1.2.2),x.2.2.2.1,x.2.2.2.2.1,x.1,x.2.2.2.2.2.2))
def Qv:Sy:=ud std Y6
def V0 (F:Sy):Nat×Be:=⟨144,2,[49],[(0,.ptr 0)],[a1 (.sl Aj)]++cW,[r0 ti]++cW,false,F⟩
abbrev V1:=((List (List UInt8))×List UInt8)→Option Int
def zZ (L:Lp):V1:=λx=>
 L.run (λa:Int=>q (a<ln x.1) (ib x.1 a λb=>q (x.2==b) (dn a)<|nx (A1 (a+1)))<|dn (-1)) 0
def Y7:V1:=zZ std
def Y8 (F:V1):=sq 214 2 [a0 (.sl .str),a1 .str] [r0 ti] F
abbrev dJ:=((List (List UInt8))×List UInt8)→Option Bool
def ue (L:Lp) (a:V1):dJ:=λx=>
 (a x).bind λb=>some (decide (b≥0))
def dK:dJ:=ue std Y7
def l5 (F:dJ):=sq 148 2 [a0 (.sl .str),a1 .str] [r0 .bool] F
abbrev dL:=(A2×A0)→Option Bool
def uf (L:Lp) (a:dJ) (b:zQ):dL:=λx=>
 (b x.2.1).bind λc=>q (!c) (some false)<|q (x.2.2.1<0) (some false)<|q (x.2.2.1≥ln x.1.1) (some false)<|q (ln x.2.2.2<1) (some false)<|q (ln x.2.2.2>16) (some false)<|L.run (λd:Int=>q (d<ln x.2.2.2) (ib x.2.2.2 d λe=>(b e).bind λf=>q (!f) (dn false)<|(sub x.2.2.2 0 d).bind λg=>(a (g,e)).bind λh=>q h (dn false)<|nx (A1 (d+1)))<|dn true) 0
def dM:dL:=uf std dK yw
def l6 (F:dL):=sq 145 2 [a0 A5,a1 A3] [r0 .bool] F
abbrev l7:=((List UInt8)×Int)→Option Bool
def ug (L:Lp):l7:=λx=>
 L.run (λa:Int=>q (a<ln x.1) (ib x.1 a λb=>q (Di b<48) (dn false)<|ib x.1 a λc=>q (Di c>57) (dn false)<|nx (A1 (a+1)))<|dn ((ln x.1)==x.2)) 0
def l8:l7:=ug std
def uh (F:l7):=sq 286 2 [a0 .str,a1 ti] [r0 .bool] F
abbrev l9:=List UInt8→Option Int
def ui (L:Lp):l9:=λx=>
 L.run (λa:Int×Int=>q (a.2<ln x) (ib x a.2 λb=>q ((Int.tmod a.2 2)==0) (q (A1 ((A1 (IntKind.u8.wrap ((Di b)-48)))*2)>9) (nx (A1 (a.1+(A1 ((A1 ((A1 (IntKind.u8.wrap ((Di b)-48)))*2))-9))),A1 (a.2+1)))<|nx (A1 (a.1+(A1 ((A1 (IntKind.u8.wrap ((Di b)-48)))*2))),A1 (a.2+1)))<|nx (A1 (a.1+(A1 (IntKind.u8.wrap ((Di b)-48)))),A1 (a.2+1)))<|dn a.1) (0,0)
def lb:l9:=ui std
def uj (F:l9):=sq 338 1 [a0 .str] [r0 ti] F
abbrev lh:=List UInt8→Option Int
def uk (L:Lp) (a:l9):lh:=λx=>
 (a x).bind λb=>some (Int.tmod (A1 (10-(Int.tmod b 10))) 10)
def ul:lh:=uk std lb
def um (F:lh):=sq 287 1 [a0 .str] [r0 ti] F
abbrev lj:=List UInt8→Option Int
def uo (L:Lp) (a:l7) (b:lh):lj:=λx=>
 (a (x,12)).bind λc=>q (!c) (some 11)<|ib x 11 λd=>(sub x 0 11).bind λe=>(b e).bind λf=>q ((A1 (IntKind.u8.wrap ((Di d)-48)))!=f) (some 9)<|some 0
def uq:lj:=uo std l8 ul
def ur (F:lj):=sq 247 1 [a0 .str] [r0 ti] F
abbrev lk:=List UInt8→Option (Int×Int)
def ut (L:Lp) (a:lj):lk:=λx=>
 (a x).bind λb=>q (b != 0) (some (0,b))<|ib x 4 λc=>q ((Di c)==55) (some (1,0))<|q ((Di c)==56) (some (1,0))<|q ((Di c)==50) (some (2,0))<|q ((Di c)==52) (some (2,0))<|q ((Di c)==57) (some (3,0))<|some (0,0)
def ll:lk:=ut std uq
def uu (F:lk):=sq 185 1 [a0 .str] [r0 ti,r1 ti] F
abbrev lm:=List UInt8→Option Bool
def uv (L:Lp):lm:=λx=>
 (L.run (λa:Int=>q (a<ln x) (ib x a λb=>q (Di b<97) (q (Di b<48) (dn (.done false))<|q (Di b>57) (dn (.done false))<|nx (A1 (a+1)))<|q (Di b>122) (q (Di b<48) (dn (.done false))<|q (Di b>57) (dn (.done false))<|nx (A1 (a+1)))<|nx (A1 (a+1)))<|dx ()) 0).bind (AF λc:PUnit=>q (ln x>0) (some (decide (ln x≤12)))<|some false)
def dN:lm:=uv std
def uw (F:lm):=sq 187 1 [a0 .str] [r0 .bool] F
abbrev lq:=A6→Option Int
def ux (L:Lp) (a:lk) (b:lm):lq:=λx=>
 (a x.1).bind λc=>q (c.2 != 0) (some c.2)<|(q (c.1==3) (nx 120)<|nx 80).bind (AF λd:Int=>q (c.1==2) (q (x.2.2.1 != 2) (some 1)<|q (x.2.1<d) (some 2)<|q (x.2.1>400) (some 2)<|q (x.2.2.2.1<50) (some 2)<|q (x.2.2.2.1>2000) (some 2)<|q (x.2.2.2.2.1<0) (some 2)<|q (x.2.2.2.2.1>x.2.2.2.1) (some 2)<|q (x.2.2.2.2.2.1<0) (some 2)<|q (x.2.2.2.2.2.1>9) (some 2)<|(b x.2.2.2.2.2.2.2).bind λe=>q (!e) (some 7)<|some 0)<|q (c.1==3) (q (x.2.2.1 != 6) (some 1)<|q (x.2.1<d) (some 2)<|q (x.2.1>400) (some 2)<|q (x.2.2.2.1<50) (some 2)<|q (x.2.2.2.1>2000) (some 2)<|q (x.2.2.2.2.1<0) (some 2)<|q (x.2.2.2.2.1>x.2.2.2.1) (some 2)<|q (x.2.2.2.2.2.1<0) (some 2)<|q (x.2.2.2.2.2.1>9) (some 2)<|(b x.2.2.2.2.2.2.2).bind λf=>q (!f) (some 7)<|some 0)<|q (x.2.2.1 != 4) (some 1)<|q (x.2.1<d) (some 2)<|q (x.2.1>400) (some 2)<|q (x.2.2.2.1<50) (some 2)<|q (x.2.2.2.1>2000) (some 2)<|q (x.2.2.2.2.1<0) (some 2)<|q (x.2.2.2.2.1>x.2.2.2.1) (some 2)<|q (x.2.2.2.2.2.1<0) (some 2)<|q (x.2.2.2.2.2.1>9) (some 2)<|(b x.2.2.2.2.2.2.2).bind λg=>q (!g) (some 7)<|some 0)
def lr:lq:=ux std ll dN
def uy (F:lq):=sq 114 1 [a0 A9] [r0 ti] F
abbrev T58:=List A6→Option Int
def B58 (L:Lp) (a:lq):T58:=λx=>
 q (ln x>96) (some 3)<|L.run (λb:Int×List ((List UInt8)×Bool)=>q (b.1<ln x) (ib x b.1 λc=>(a c).bind λd=>q (d != 0) (dn d)<|q (Ss b.2 c.1 false) (dn 8)<|nx (A1 (b.1+1),H9 b.2 c.1 true))<|dn 0) (0,[])
def F58:T58:=B58 std lr
def S58 (F:T58):=sq 58 1 [a0 (.sl A9)] [r0 ti] F
abbrev dO:=List A6→Option Aa
def uz (L:Lp) (a:T58):dO:=λx=>
 (a x).bind λb=>q (b != 0) (some (0,0,0,b))<|(L.run (λc:Aa=>q (c.2.2.2<ln x) (ib x c.2.2.2 λd=>nx (A1 (c.1+d.2.1),A1 (c.2.1+d.2.2.2.1),A1 (c.2.2.1+d.2.2.1),A1 (c.2.2.2+1)))<|dx (c.1,c.2.1,c.2.2.1)) (0,0,0,0)).bind (AF λe:Int×Int×Int=>some (e.1,e.2.1,e.2.2,0))
def dP:dO:=uz std F58
def lu (F:dO):=sq 273 1 [a0 (.sl A9)] [r0 ti,r1 ti,r2 ti,r3 ti] F
abbrev lw:=(A2×A0×List A6)→Option Int
def uA (L:Lp) (a:dL) (b:u7) (c:dO):lw:=λx=>
 (b x.1).bind λd=>q (d != 0) (some d)<|(a (x.1,x.2.1)).bind λe=>q (!e) (some 1)<|(c x.2.2).bind λf=>some f.2.2.2
def uB:lw:=uA std dM ua dP
def uC (F:lw):=sq 233 3 [a0 A5,a1 A3,a2 (.sl A9)] [r0 ti] F
abbrev lx:=(A0×List A6)→Option ((List Int)×Int×Int)
def uD (L:Lp) (a:V1):lx:=λx=>
 L.run (λb:(List Int)×Int=>q (b.2<ln x.2) (ib x.2 b.2 λc=>(a (x.1.2.2,c.2.2.2.2.2.2.2)).bind λd=>q (d<0) (dn ([],b.2,7))<|q (room b.1 [d]) (nx (b.1++[d],A1 (b.2+1)))<|none)<|dn (b.1,(-1),0)) ([],0)
def uE:lx:=uD std Y7
def uF (F:lx):=sp 274 2 [a0 A3,a1 (.sl A9)] [r0 li,r1 ti,r2 ti] F
abbrev ly:=(A0×List A6)→Option ((List Int)×Int×Int)
def uG (L:Lp) (a:lx):ly:=λx=>
 (a x).bind λb=>q (b.2.2 != 0) (some ([],b.2))<|L.run (λc:Int=>q (c<ln b.1) (q (c>0) (ib b.1 c λd=>ib b.1 (A1 (c-1)) λe=>q (d<e) (dn ([],c,12))<|nx (A1 (c+1)))<|nx (A1 (c+1)))<|dn (b.1,0,0)) 0
def uH:ly:=uG std uE
def uI (F:ly):=sp 234 2 [a0 A3,a1 (.sl A9)] [r0 li,r1 ti,r2 ti] F
abbrev lz:=Int→Option Int
def uJ (L:Lp):lz:=λx=>
 q (x≤5000) (some 100)<|q (x>10000) (some 80)<|some (max 80 (A1 (100-(A1 (Int.tdiv (A1 ((A1 (x-5000))+99)) 100)))))
def uK:lz:=uJ std
def uL (F:lz):=sq 317 1 [a0 ti] [r0 ti] F
abbrev dQ:=((List A6)×List Int)→Option (Dk×Int)
def uM (L:Lp) (a:dO) (b:lz):dQ:=λx=>
 (a x.1).bind λc=>q (c.2.2.2 != 0) (some ((0,0,0,0,0,0,0),c.2.2.2))<|q (Dh (ln x.1)) ((L.run (λd:Int=>q (d<ln x.2) (ib x.2 d λe=>q (e≥0) (q (!(e≤A1 ((ln x.1)-1))) (dn (.done ((0,0,0,0,0,0,0),2)))<|nx (A1 (d+1)))<|dn (.done ((0,0,0,0,0,0,0),2)))<|dx ()) 0).bind (AF λf:PUnit=>(L.run (λg:Int×List Bool=>q (g.1<ln x.2) (ib x.2 g.1 λh=>ib g.2 h λi=>q (A7 g.2 h i) (dn (.done ((0,0,0,0,0,0,0),8)))<|ib g.2 h λj=>nx (A1 (g.1+1),List.set g.2 (Int.toNat h) true))<|dx g.2) (0,List.replicate (Int.toNat (ln x.1)) false)).bind (AF λk:List Bool=>(L.run (λl:Int×Int=>q (l.1<ln x.1) (ib x.1 l.1 λm=>ib k l.1 λn=>q (!(A7 k l.1 n)) (nx (A1 (l.1+1),A1 (l.2+m.2.2.2.2.1)))<|nx (A1 (l.1+1),l.2))<|dx l.2) (0,0)).bind (AF λo:Int=>(b c.1).bind λp=>q (c.2.1>0) (q (c.2.1 != 0) (some ((c.1,c.2.2.1,c.2.1,A1 (Int.tdiv (A1 (o*p)) 100),A1 (Int.tdiv (A1 (100*(A1 (Int.tdiv (A1 (o*p)) 100)))) c.2.1),0,0),0))<|none)<|some ((c.1,c.2.2.1,c.2.1,A1 (Int.tdiv (A1 (o*p)) 100),0,0,0),0)))))<|none
def dR:dQ:=uM std dP uK
def lA (F:dQ):=sq 275 2 [a0 (.sl A9),a1 li] [r0 CS,r1 ti] F
abbrev lB:=((List (Int×Int×Int))×Int×Int)→Option (Int×Bool)
def uN (L:Lp):lB:=λx=>
 L.run (λa:Int×Bool×Int=>q (a.2.2<ln x.1) (ib x.1 a.2.2 λb=>q (b.1≥x.2.1) (q (b.2.1≥x.2.2) (q (!a.2.1) (nx (b.2.2,true,A1 (a.2.2+1)))<|q (b.2.2<a.1) (nx (b.2.2,true,A1 (a.2.2+1)))<|nx (a.1,a.2.1,A1 (a.2.2+1)))<|nx (a.1,a.2.1,A1 (a.2.2+1)))<|nx (a.1,a.2.1,A1 (a.2.2+1)))<|dn (a.1,a.2.1)) (0,false,0)
def uO:lB:=uN std
def uP (F:lB):=sq 318 3 [a0 (.sl (.pair ti (.pair ti ti))),a1 ti,a2 ti] [r0 ti,r1 .bool] F
abbrev lC:=((List (Int×Int×Int))×Int×Int)→Option (Int×Int)
def uQ (L:Lp) (a:lB) (b:zT):lC:=λx=>
 (b x.1).bind λc=>q (!c) (some (0,1))<|q (x.2.1≥1) (q (!(x.2.1≤200)) (some (0,2))<|q (x.2.2≥0) (q (!(x.2.2≤500)) (some (0,2))<|(a x).bind λd=>q (!d.2) (some (0,15))<|some (d.1,0))<|some (0,2))<|some (0,2)
def uR:lC:=uQ std uO zU
def uS (F:lC):=sq 276 3 [a0 (.sl (.pair ti (.pair ti ti))),a1 ti,a2 ti] [r0 ti,r1 ti] F
abbrev lD:=((List A6)×(List Int)×(List (Int×Int×Int))×Int×Int)→Option (Dk×Int)
def uT (L:Lp) (a:dQ) (b:lC):lD:=λx=>
 (a (x.1,x.2.1)).bind λc=>q (c.2 != 0) (some ((0,0,0,0,0,0,0),c.2))<|(b x.2.2).bind λd=>q (d.2 != 0) (some ((0,0,0,0,0,0,0),d.2))<|some ((c.1.1,c.1.2.1,c.1.2.2.1,c.1.2.2.2.1,c.1.2.2.2.2.1,d.1,max 0 (A1 ((A1 (Int.tdiv (A1 ((A1 (d.1*c.1.2.2.1))+99)) 100))-c.1.2.2.2.1))),0)
def uU:lD:=uT std dR uR
def uV (F:lD):=sq 235 5 [a0 (.sl A9),a1 li,a2 (.sl (.pair ti (.pair ti ti))),a3 ti,a4 ti] [r0 CS,r1 ti] F
abbrev Im:=(CP×Int)→Option Int
def MM (L:Lp):Im:=λx=>
 L.run (λa:Int×Int=>q (a.2<ln x.1.1) (ib x.1.1 a.2 λb=>q (A1 (a.1+b.2.1)>x.2) (dn a.2)<|nx (A1 (a.1+b.2.1),A1 (a.2+1)))<|dn (-1)) (0,0)
def MN:Im:=MM std
def MO (F:Im):Nat×Be:=⟨319,3,[],[(2,.fn 320 [] [])],[a0 DO,a1 ti],[r0 ti],true,F⟩
abbrev In:=(CP×Int)→Option Int
def MP (L:Lp):In:=λx=>
 L.run (λa:Int×Int=>q (a.2<ln x.1.1) (ib x.1.1 a.2 λb=>q (A1 (a.1+b.2.2.1)>x.2) (dn a.2)<|nx (A1 (a.1+b.2.2.1),A1 (a.2+1)))<|dn (-1)) (0,0)
def MQ:In:=MP std
def MR (F:In):Nat×Be:=⟨319,3,[],[(2,.fn 321 [] [])],[a0 DO,a1 ti],[r0 ti],true,F⟩
abbrev Io:=(CP×Int)→Option Int
def MT (L:Lp):Io:=λx=>
 L.run (λa:Int×Int=>q (a.2<ln x.1.1) (ib x.1.1 a.2 λb=>q (A1 (a.1+b.2.2.2.1)>x.2) (dn a.2)<|nx (A1 (a.1+b.2.2.2.1),A1 (a.2+1)))<|dn (-1)) (0,0)
def MU:Io:=MT std
def MV (F:Io):Nat×Be:=⟨319,3,[],[(2,.fn 322 [] [])],[a0 DO,a1 ti],[r0 ti],true,F⟩
abbrev lE:=(CP×Ba×Int)→Option Bool
def uW (L:Lp):lE:=λx=>
 L.run (λa:Int=>q (a<x.2.2) (ib x.1.1 a λb=>ib x.1.1 x.2.2 λc=>q (A1 ((A1 (x.2.2-a))-1)<x.2.1.2.2.2.2) (q (b.2.2.2.2.2.1==x.2.1.2.2.1) (q (c.2.2.2.2.2.1==x.2.1.2.2.2.1) (dn true)<|q (b.2.2.2.2.2.1==x.2.1.2.2.2.1) (q (c.2.2.2.2.2.1==x.2.1.2.2.1) (dn true)<|nx (A1 (a+1)))<|nx (A1 (a+1)))<|q (b.2.2.2.2.2.1==x.2.1.2.2.2.1) (q (c.2.2.2.2.2.1==x.2.1.2.2.1) (dn true)<|nx (A1 (a+1)))<|nx (A1 (a+1)))<|nx (A1 (a+1)))<|dn false) 0
def uX:lE:=uW std
def uY (F:lE):=sq 326 3 [a0 DO,a1 BW,a2 ti] [r0 .bool] F
abbrev Ip:=(CP×(List A6)×(List Int)×Dk×Ba)→Option (Int×(List A6)×(List Int)×Dk×Ba)
def MW (L:Lp) (a:lE):Ip:=λx=>
 L.run (λb:Int=>q (b<ln x.1.1) (ib x.1.1 b λc=>(a ((x.2.1,x.2.2.1,x.2.2.2.1),x.2.2.2.2,b)).bind λd=>q d (dn (b,x.2))<|nx (A1 (b+1)))<|dn ((-1),x.2)) 0
def MX:Ip:=MW std uX
def MY (F:Ip):Nat×Be:=⟨324,2,[9,5],[(1,.fn 325 [] [.ptr 0,.ptr 1])],[a0 DO,zc 0 0 (.sl A9),zc 0 1 li,zc 0 2 CS,zc 1 0 ti,zc 1 1 ti,zc 1 2 ti,zc 1 3 ti,zc 1 4 ti],[r0 ti,zc 0 0 (.sl A9),zc 0 1 li,zc 0 2 CS,zc 1 0 ti,zc 1 1 ti,zc 1 2 ti,zc 1 3 ti,zc 1 4 ti],false,F⟩
abbrev Iq:=(CP×Ba)→Option (Int×Ba)
def MZ (L:Lp):Iq:=λx=>
 L.run (λa:Int=>q (a<ln x.1.1) (ib x.1.1 a λb=>q (b.2.2.2.2.2.1==x.2.2.2.1) (q (a<x.2.2.2.2.1) (dn (a,x.2))<|nx (A1 (a+1)))<|nx (A1 (a+1)))<|dn ((-1),x.2)) 0
def O0:Iq:=MZ std
def O1 (F:Iq):Nat×Be:=⟨324,2,[5],[(1,.fn 327 [] [.ptr 0])],[a0 DO,zc 0 0 ti,zc 0 1 ti,zc 0 2 ti,zc 0 3 ti,zc 0 4 ti],[r0 ti,zc 0 0 ti,zc 0 1 ti,zc 0 2 ti,zc 0 3 ti,zc 0 4 ti],false,F⟩
abbrev Ir:=(CP×Ba)→Option (Int×Ba)
def O2 (L:Lp):Ir:=λx=>
 L.run (λa:Int=>q (a<ln x.1.1) (ib x.1.1 a λb=>q (b.2.2.2.1>A1 (x.2.2.2.1*b.2.2.1)) (dn (a,x.2))<|nx (A1 (a+1)))<|dn ((-1),x.2)) 0
def O3:Ir:=O2 std
def O4 (F:Ir):Nat×Be:=⟨324,2,[5],[(1,.fn 329 [] [.ptr 0])],[a0 DO,zc 0 0 ti,zc 0 1 ti,zc 0 2 ti,zc 0 3 ti,zc 0 4 ti],[r0 ti,zc 0 0 ti,zc 0 1 ti,zc 0 2 ti,zc 0 3 ti,zc 0 4 ti],false,F⟩
abbrev lF:=(CP×Int)→Option Int
def uZ (L:Lp):lF:=λx=>
 (sub x.1.1 (A1 (x.2+1)) (ln x.1.1)).bind λa=>L.run (λb:Int×Int=>q (b.2<ln a) (ib a b.2 λc=>nx (A1 (b.1+c.2.2.2.1),A1 (b.2+1)))<|dn b.1) (0,0)
def vb:lF:=uZ std
def ve (F:lF):=sq 331 2 [a0 DO,a1 ti] [r0 ti] F
abbrev Is:=(CP×Int×Int×Int×Int×Int×CP)→Option (Int×Int×Int×Int×Int×Int×CP)
def O5 (L:Lp) (a:lF):Is:=λx=>
 L.run (λb:Int=>q (b<ln x.1.1) (ib x.1.1 b λc=>q (c.2.2.2.1≤x.2.2.2.1) ((a (x.2.2.2.2.2.2,b)).bind λd=>q (d>x.2.2.2.2.1) (dn (b,x.2))<|nx (A1 (b+1)))<|nx (A1 (b+1)))<|dn ((-1),x.2)) 0
def O6:Is:=O5 std vb
def O7 (F:Is):Nat×Be:=⟨324,2,[5,9],[(1,.fn 330 [] [.ptr 0,.ptr 1])],[a0 DO,zc 0 0 ti,zc 0 1 ti,zc 0 2 ti,zc 0 3 ti,zc 0 4 ti,zc 1 0 (.sl A9),zc 1 1 li,zc 1 2 CS],[r0 ti,zc 0 0 ti,zc 0 1 ti,zc 0 2 ti,zc 0 3 ti,zc 0 4 ti,zc 1 0 (.sl A9),zc 1 1 li,zc 1 2 CS],false,F⟩
abbrev JX:=((List Int)×Int)→Option Bool
def vf (L:Lp) (a:MK):JX:=λx=>
 (a x).bind λb=>some (decide (b≥0))
def JY:JX:=vf std ML
def O8 (F:JX):=sq 206 2 [a0 li,a1 ti] [r0 .bool] F
abbrev lG:=(CP×Ba)→Option Bool
def vg (L:Lp) (a:JX):lG:=λx=>
 (L.run (λb:Int×Int=>q (b.2<ln x.1.1) (ib x.1.1 b.2 λc=>q (c.2.2.2.2.1>0) ((a (x.1.2.1,b.2)).bind λd=>q (!d) (nx (A1 (b.1+1),A1 (b.2+1)))<|nx (b.1,A1 (b.2+1)))<|nx (b.1,A1 (b.2+1)))<|dx b.1) (0,A1 ((ln x.1.1)-(min x.2.2.2.1 (ln x.1.1))))).bind (AF λe:Int=>some (decide (e<(min x.2.2.2.2.1 (min x.2.2.2.1 (ln x.1.1))))))
def vj:lG:=vg std JY
def vl (F:lG):=sq 328 2 [a0 DO,a1 BW] [r0 .bool] F
abbrev lH:=(CP×Ba)→Option Int
def vn (L:Lp) (a:Im) (b:In) (c:Io) (d:Ip) (e:Iq) (f:Ir) (g:Is) (h:lG):lH:=λx=>
 q (x.2.2.1==1) ((a (x.1,x.2.2.2.1)).bind λi=>some i)<|q (x.2.2.1==2) ((b (x.1,x.2.2.2.1)).bind λj=>some j)<|q (x.2.2.1==3) ((c (x.1,x.2.2.2.1)).bind λk=>some k)<|q (x.2.2.1==4) (q (ln x.1.1>0) (q (x.1.2.2.2.2.2.2.1<x.2.2.2.1) (some (ln x.1.1))<|some (-1))<|some (-1))<|q (x.2.2.1==5) ((d (x.1,x.1.1,x.1.2.1,x.1.2.2,x.2)).bind λl=>some l.1)<|q (x.2.2.1==6) ((e x).bind λm=>some m.1)<|q (x.2.2.1==7) ((h x).bind λn=>q n (some (ln x.1.1))<|some (-1))<|q (x.2.2.1==8) ((f x).bind λo=>some o.1)<|(g (x.1,x.2.1,x.2.2.1,x.2.2.2.1,x.2.2.2.2.1,x.2.2.2.2.2,x.1)).bind λp=>some p.1
def lI:lH:=vn std MN MQ MU MX O0 O3 O6 vj
def vo (F:lH):=sq 277 2 [a0 DO,a1 BW] [r0 ti] F
abbrev lJ:=((List Ba)×(List A6)×List Int)→Option (Int×Int×Int)
def vp (L:Lp) (a:dQ) (b:lH) (c:zR):lJ:=λx=>
 (c x.1).bind λd=>q (d != 0) (some (0,0,d))<|(a x.2).bind λe=>q (e.2 != 0) (some (0,0,e.2))<|L.run (λf:Int=>q (f<ln x.1) (ib x.1 f λg=>(b ((x.2.1,x.2.2,e.1),g)).bind λh=>q (h≥0) (dn (g.1,h,0))<|nx (A1 (f+1)))<|dn (0,(-1),0)) 0
def vq:lJ:=vp std dR lI zS
def vr (F:lJ):=sq 236 3 [a0 (.sl BW),a1 (.sl A9),a2 li] [r0 ti,r1 ti,r2 ti] F
abbrev lK:=((List Int)×Int)→Option Int
def vt (L:Lp):lK:=λx=>
 q (ln x.1>96) (some 3)<|L.run (λa:Int=>q (a<ln x.1) (ib x.1 a λb=>q (b<0) (dn 2)<|q (b≥x.2) (dn 2)<|nx (A1 (a+1)))<|dn 0) 0
def vu:lK:=vt std
def vz (F:lK):=sq 278 2 [a0 li,a1 ti] [r0 ti] F
abbrev lL:=((List Int)×Int)→Option (List (Int×Int×Int))
def vA (L:Lp):lL:=λx=>
 L.run (λa:(List (Int×Int×Int))×(List Int)×Int=>q (a.2.2<x.2) ((L.run (λb:(List Int)×Int×Int×Int=>q (b.2.1<ln a.2.1) (ib a.2.1 b.2.1 λc=>q (c != a.2.2) (q (room b.1 [c]) (nx (b.1++[c],A1 (b.2.1+1),b.2.2))<|none)<|q (b.2.1==0) (nx (b.1,A1 (b.2.1+1),A1 (b.2.2.1+1),A1 (b.2.2.2+1)))<|ib a.2.1 (A1 (b.2.1-1)) λd=>q (d != a.2.2) (nx (b.1,A1 (b.2.1+1),A1 (b.2.2.1+1),A1 (b.2.2.2+1)))<|nx (b.1,A1 (b.2.1+1),b.2.2.1,A1 (b.2.2.2+1)))<|dx (b.1,b.2.2.2,b.2.2.1)) ([],0,0,0)).bind (AF λe:(List Int)×Int×Int=>q (e.2.1>0) (q (room a.1 ([(a.2.2,e.2)])) (nx (a.1++([(a.2.2,e.2)]),e.1,A1 (a.2.2+1)))<|none)<|nx (a.1,e.1,A1 (a.2.2+1))))<|dn a.1) ([],x.1,0)
def vB:lL:=vA std
def vC (F:lL):=sp 279 2 [a0 li,a1 ti] [o0 (.pair ti (.pair ti ti)) 282] F
abbrev lM:=((List Int)×Int)→Option ((List (Int×Int×Int))×Int)
def vD (L:Lp) (a:lK) (b:lL):lM:=λx=>
 q (x.2<0) (some ([],2))<|q (x.2>16) (some ([],2))<|(a x).bind λc=>q (c != 0) (some ([],c))<|(b x).bind λd=>some (d,0)
def lN:lM:=vD std vu vB
def vE (F:lM):=sp 237 2 [a0 li,a1 ti] [o0 (.pair ti (.pair ti ti)) 282,r1 ti] F
abbrev dS:=(A2×A0×List A6)→Option (Gt×Int×Int×Int)
def vF (L:Lp) (a:lw) (b:ly) (c:lD) (d:lJ) (e:lM) (f:zV):dS:=λx=>
 (a x).bind λg=>q (g != 0) (some (([],[],(0,0,0,0,0,0,0),[]),0,0,g))<|q ((ln x.2.2)==0) (some (([],[],(0,0,0,0,0,0,0),[]),0,0,13))<|(b x.2).bind λh=>q (h.2.2 != 0) (some (([],[],(0,0,0,0,0,0,0),[]),0,h.2))<|(c (x.2.2,[],x.1.2.2)).bind λi=>q (i.2 != 0) (some (([],[],(0,0,0,0,0,0,0),[]),0,0,i.2))<|(d (x.1.2.1,x.2.2,[])).bind λj=>q (j.2.2 != 0) (some (([],[],(0,0,0,0,0,0,0),[]),0,0,j.2.2))<|q (j.1 != 0) (some (([],[],(0,0,0,0,0,0,0),[]),j.1,j.2.1,20))<|q (i.1.2.2.2.2.2.2 != 0) (some (([],[],(0,0,0,0,0,0,0),[]),0,ln x.2.2,20))<|q (Dh (ln x.2.2)) ((L.run (λk:AC=>q (k.1<ln h.1) (ib h.1 k.1 λl=>ib k.2 k.1 λm=>nx (A1 (k.1+1),List.set k.2 (Int.toNat k.1) (A1 ((A1 ((ln x.2.1.2.2)-1))-l))))<|dx k.2) (0,List.replicate (Int.toNat (ln x.2.2)) 0)).bind (AF λn:List Int=>(e (n,ln x.2.1.2.2)).bind λo=>q (o.2 != 0) (some (([],[],(0,0,0,0,0,0,0),[]),0,0,o.2))<|(f x.2.2).bind λp=>some ((x.2.1.1,p,i.1,o.1),0,0,0)))<|none
def V2:dS:=vF std uB uH uU vq lN qx
def lO (F:dS):=sp 166 3 [a0 A5,a1 A3,a2 (.sl A9)] [r0 AU,r1 ti,r2 ti,r3 ti] F
abbrev lP:=(A2×(List A6)×(List (List Int))×(List A0)×Bool×Ab×Bool×Ah×Ag)→Option (Int×A2×(List A6)×(List (List Int))×(List A0)×Bool×Ab×Bool×Ah×Ag)
def vG (L:Lp) (a:kW) (b:Sy) (c:dS):lP:=λx=>
 q x.2.2.2.2.1 (some (25,x))<|(L.run (λd:Int=>q (d<ln x.2.2.2.1) (ib x.2.2.2.1 d λe=>q (((A7 x.2.2.2.1 d e).1)==x.2.2.2.2.2.2.2.1.2.2.2.2.2.2.2.2.1) (dx d)<|nx (A1 (d+1)))<|dx (-1)) 0).bind (AF λf:Int=>q (f<0) (some (7,x))<|ib x.2.2.2.1 f λg=>(ib x.2.2.1 (((A7 x.2.2.2.1 f g).2).1) λh=>L.run (λi:(List A6)×(List Ap)×Int=>q (i.2.2<ln h) (ib h i.2.2 λj=>ib x.2.1 j λk=>q (room i.1 ([k])) (q (room i.2.1 ([(j,((A7 x.2.2.2.1 f g).2).1,(-1),false)])) (nx (i.1++([k]),i.2.1++([(j,((A7 x.2.2.2.1 f g).2).1,(-1),false)]),A1 (i.2.2+1)))<|none)<|none)<|dx (i.1,i.2.1)) ([],[],0)).bind (AF λl:(List A6)×List Ap=>(c (x.1,((A7 x.2.2.2.1 f g).1,((A7 x.2.2.2.1 f g).2).1,((A7 x.2.2.2.1 f g).2).2),l.1)).bind λm=>q (m.2.2.2 != 0) (some (m.2.2.2,x.1,x.2.1,x.2.2.1,x.2.2.2.1,x.2.2.2.2.1,x.2.2.2.2.2.1,x.2.2.2.2.2.2.1,x.2.2.2.2.2.2.2.1,x.2.2.2.2.2.2.2.2.1,x.2.2.2.2.2.2.2.2.2.1,x.2.2.2.2.2.2.2.2.2.2.1,x.2.2.2.2.2.2.2.2.2.2.2.1,x.2.2.2.2.2.2.2.2.2.2.2.2.1,m.2.1,m.2.2.1))<|(a (x.2.2.2.1,f,A1 (f+1))).bind λn=>(b (l.2,x.1,(x.2.1,x.2.2.1,n,x.2.2.2.2.1,x.2.2.2.2.2.1,x.2.2.2.2.2.2.1),x.2.2.2.2.2.2.2.1,x.2.2.2.2.2.2.2.2.1,x.2.2.2.2.2.2.2.2.2.1,x.2.2.2.2.2.2.2.2.2.2.1,x.2.2.2.2.2.2.2.2.2.2.2.1,m.1,x.2.2.2.2.2.2.2.2.2.2.2.2.2)).bind λo=>some (o.1,o.2.1,o.2.2.1.1,o.2.2.1.2.1,o.2.2.1.2.2.1,o.2.2.1.2.2.2.1,o.2.2.1.2.2.2.2.1,o.2.2.1.2.2.2.2.2,o.2.2.2)))
def lQ:lP:=vG std UZ Qv V2
def vH (F:lP):Nat×Be:=⟨100,1,[49],[(0,.ptr 0)],[zc 0 0 A5,zc 0 5 (.sl A9),zc 0 6 (.sl li),.cell 0 7 (.own A3 80),zc 0 8 .bool,zc 0 9 Ae,zc 0 18 .bool,zc 0 19 An,zc 0 31 AP],[r0 ti,zc 0 0 A5,zc 0 5 (.sl A9),zc 0 6 (.sl li),zc 0 7 (.sl A3),zc 0 8 .bool,zc 0 9 Ae,zc 0 18 .bool,zc 0 19 An,zc 0 31 AP],false,F⟩
abbrev lR:=List Int→Option (Int×Bool)
def vI (L:Lp):lR:=λx=>
 q ((ln x)==0) (some (0,false))<|(L.run (λa:Int×Int=>ib x 0 λb=>q (a.2<A1 b) (q (A1 (a.1+15)>ln x) (dn (.done (0,false)))<|ib x (A1 ((A1 (a.1+15))-1)) λc=>nx (A1 ((A1 (a.1+15))+(A1 c)),A1 (a.2+1)))<|dx a.1) (1,0)).bind (AF λd:Int=>some (A1 (d+2),decide (A1 (d+2)≤ln x)))
def lT:lR:=vI std
def vJ (F:lR):=sq 209 1 [a0 (.sl (.int .u8))] [r0 ti,r1 .bool] F
abbrev dT:=((List Int)×Int)→Option (Int×(List Int)×Int)
def vK (L:Lp):dT:=λx=>
 ib x.1 (A1 ((A1 (x.2+1))-1)) λa=>some (A1 a,x.1,A1 (x.2+1))
def Y9:dT:=vK std
def lU (F:dT):Nat×Be:=⟨258,1,[2],[(0,.ptr 0)],[zc 0 0 (.sl (.int .u8)),zc 0 1 ti],[r0 ti,zc 0 0 (.sl (.int .u8)),zc 0 1 ti],false,F⟩
abbrev dU:=((List Int)×Int)→Option (Int×(List Int)×Int)
def vL (L:Lp) (a:dT):dU:=λx=>
 (a x).bind λb=>(a b.2).bind λc=>some (yV .i64 (Gs .i64 b.1 8) c.1,c.2)
def dV:dU:=vL std Y9
def lV (F:dU):Nat×Be:=⟨210,1,[2],[(0,.ptr 0)],[zc 0 0 (.sl (.int .u8)),zc 0 1 ti],[r0 ti,zc 0 0 (.sl (.int .u8)),zc 0 1 ti],false,F⟩
abbrev lW:=((List Int)×Int)→Option (A6×Bool×(List Int)×Int)
def vM (L:Lp) (a:dU) (b:dT):lW:=λx=>
 (L.run (λc:(List Int)×Bool×Int×AC=>q (c.2.2.1<12) ((b (c.2.2.2.2,c.2.2.2.1)).bind λd=>q c.2.1 (q (DV .i64 d.1 4≤9) (q (room c.1 ([IntKind.u8.wrap (A1 (48+(DV .i64 d.1 4))),IntKind.u8.wrap (A1 (48+(CF .i64 d.1 15)))])) (nx (c.1++([IntKind.u8.wrap (A1 (48+(DV .i64 d.1 4))),IntKind.u8.wrap (A1 (48+(CF .i64 d.1 15)))]),decide (CF .i64 d.1 15≤9),A1 (c.2.2.1+2),d.2.2,d.2.1))<|none)<|q (room c.1 ([IntKind.u8.wrap (A1 (48+(DV .i64 d.1 4))),IntKind.u8.wrap (A1 (48+(CF .i64 d.1 15)))])) (nx (c.1++([IntKind.u8.wrap (A1 (48+(DV .i64 d.1 4))),IntKind.u8.wrap (A1 (48+(CF .i64 d.1 15)))]),false,A1 (c.2.2.1+2),d.2.2,d.2.1))<|none)<|q (room c.1 ([IntKind.u8.wrap (A1 (48+(DV .i64 d.1 4))),IntKind.u8.wrap (A1 (48+(CF .i64 d.1 15)))])) (nx (c.1++([IntKind.u8.wrap (A1 (48+(DV .i64 d.1 4))),IntKind.u8.wrap (A1 (48+(CF .i64 d.1 15)))]),false,A1 (c.2.2.1+2),d.2.2,d.2.1))<|none)<|dx (c.1,c.2.1,c.2.2.2.2,c.2.2.2.1)) ([],true,0,x.2,x.1)).bind (AF λe:(List Int)×Bool×(List Int)×Int=>(a e.2.2).bind λf=>(b f.2).bind λg=>(a g.2).bind λh=>(a h.2).bind λi=>(b i.2).bind λj=>q e.2.1 (q (j.1≤25) ((b j.2).bind λk=>(sub k.2.1 k.2.2 (A1 (k.2.2+k.1))).bind λl=>some ((E5 e.1,f.1,g.1,h.1,i.1,Int.tmod j.1 16,decide (j.1≥16),E5 l),decide (Int.tmod j.1 16≤9),k.2.1,A1 (k.2.2+k.1)))<|(b j.2).bind λm=>(sub m.2.1 m.2.2 (A1 (m.2.2+m.1))).bind λn=>some ((E5 e.1,f.1,g.1,h.1,i.1,Int.tmod j.1 16,decide (j.1≥16),E5 n),false,m.2.1,A1 (m.2.2+m.1)))<|(b j.2).bind λo=>(sub o.2.1 o.2.2 (A1 (o.2.2+o.1))).bind λp=>some ((E5 e.1,f.1,g.1,h.1,i.1,Int.tmod j.1 16,decide (j.1≥16),E5 p),false,o.2.1,A1 (o.2.2+o.1)))
def lX:lW:=vM std dV Y9
def vN (F:lW):Nat×Be:=⟨211,1,[2],[(0,.ptr 0)],[zc 0 0 (.sl (.int .u8)),zc 0 1 ti],[r0 A9,r1 .bool,zc 0 0 (.sl (.int .u8)),zc 0 1 ti],false,F⟩
abbrev T60:=List Int→Option Int
def B60 (L:Lp):T60:=λx=>
 L.run (λa:Int×Int=>q (a.2<ln x) (ib x a.2 λb=>nx (Int.tmod (A1 (a.1+(A1 ((Int.tmod (A1 (a.2+1)) 65521)*(A1 b))))) 65521,A1 (a.2+1)))<|dn a.1) (0,0)
def F60:T60:=B60 std
def S60 (F:T60):=sq 60 1 [a0 (.sl (.int .u8))] [r0 ti] F
abbrev dW:=List Int→Option ((List A6)×Int)
def vO (L:Lp) (a:lR) (b:dU) (c:lW) (d:T58) (e:T60):dW:=λx=>
 (a x).bind λf=>q (!f.2) (some ([],10))<|q (f.1<ln x) (some ([],11))<|(sub x 0 (A1 (f.1-2))).bind λg=>(b (x,A1 (f.1-2))).bind λh=>(e g).bind λi=>q (h.1 != i) (some ([],9))<|(L.run (λj:(List A6)×Bool×Int×AC=>ib x 0 λk=>q (j.2.2.1<A1 k) ((c (j.2.2.2.2,j.2.2.2.1)).bind λl=>q j.2.1 (q (room j.1 ([l.1])) (nx (j.1++([l.1]),l.2.1,A1 (j.2.2.1+1),l.2.2.2,l.2.2.1))<|none)<|q (room j.1 ([l.1])) (nx (j.1++([l.1]),false,A1 (j.2.2.1+1),l.2.2.2,l.2.2.1))<|none)<|dx (j.1,j.2.1,j.2.2.2.2,j.2.2.2.1)) ([],true,0,1,h.2.1)).bind (AF λm:(List A6)×Bool×(List Int)×Int=>q (!m.2.1) (some ([],11))<|(d m.1).bind λn=>q (n != 0) (some ([],n))<|some (m.1,0))
def Sz:dW:=vO std lT dV lX F58 F60
def lY (F:dW):=sp 141 1 [a0 (.sl (.int .u8))] [r0 (.sl A9),r1 ti] F
abbrev Iu:=((List A6)×List UInt8)→Option (Int×List UInt8)
def O9 (L:Lp):Iu:=λx=>
 L.run (λa:Int=>q (a<ln x.1) (ib x.1 a λb=>q (b.1==x.2) (dn (a,x.2))<|nx (A1 (a+1)))<|dn ((-1),x.2)) 0
def Oa:Iu:=O9 std
def Ob (F:Iu):Nat×Be:=⟨212,2,[1],[(1,.fn 143 [] [.ptr 0])],[a0 (.sl A9),zc 0 0 .str],[r0 ti,zc 0 0 .str],false,F⟩
abbrev Iv:=((List A6)×List UInt8)→Option (Bool×List UInt8)
def Oc (L:Lp) (a:Iu):Iv:=λx=>
 (a x).bind λb=>some (decide (b.1≥0),b.2)
def Gu:Iv:=Oc std Oa
def Od (F:Iv):Nat×Be:=⟨142,2,[1],[(1,.fn 143 [] [.ptr 0])],[a0 (.sl A9),zc 0 0 .str],[r0 .bool,zc 0 0 .str],false,F⟩
abbrev Ez:=((List A0)×Int)→Option (Bool×Int)
def SA (L:Lp):Ez:=λx=>
 L.run (λa:Int=>q (a<ln x.1) (ib x.1 a λb=>q (b.2.1==x.2) (dn (decide (a≥0),x.2))<|nx (A1 (a+1)))<|dn (decide ((-1)≥0),x.2)) 0
def EA:Ez:=SA std
def Gv (F:Ez):Nat×Be:=⟨207,2,[1],[(1,.fn 208 [] [.ptr 0])],[a0 (.sl A3),zc 0 0 ti],[r0 .bool,zc 0 0 ti],false,F⟩
abbrev T94:=(A2×(List A6)×(List (List Int))×(List A0)×Bool×Ab×Bool×Ah×Ag)→Option (Int×A2×(List A6)×(List (List Int))×(List A0)×Bool×Ab×Bool×Ah×Ag)
def B94 (L:Lp) (a:dW) (b:Iv) (c:Sy) (d:JX) (e:Ez):T94:=λx=>
 q (x.2.2.2.2.2.2.2.1.2.1≥0) (q (!(x.2.2.2.2.2.2.2.1.2.1<ln x.1.1)) (some (2,x))<|q x.2.2.2.2.2.2.1 (some (25,x))<|q x.2.2.2.2.1 (q (x.2.2.2.2.2.2.2.1.2.1==x.2.2.2.2.2.1.2.2.2.1) (some (25,x))<|(d (x.2.2.2.2.2.1.2.2.2.2.1,x.2.2.2.2.2.2.2.1.2.1)).bind λf=>q f (some (25,x))<|(e (x.2.2.2.1,x.2.2.2.2.2.2.2.1.2.1)).bind λg=>q g.1 (some (17,x))<|(a x.2.2.2.2.2.2.2.1.2.2.2.2.2.2.2.2.2).bind λh=>q (h.2 != 0) (some (h.2,x))<|(L.run (λi:Int=>q (i<ln x.2.2.1) (ib x.2.2.1 i λj=>L.run (λk:Int=>q (k<ln j) (ib j k λl=>ib x.2.1 l λm=>(b (h.1,(A7 x.2.1 l m).1)).bind λn=>q n.1 (dn (.done (.done (8,x))))<|nx (A1 (k+1)))<|dx (A1 (i+1))) 0)<|dx ()) 0).bind (AF λo:PUnit=>q (A1 ((ln x.2.1)+(ln h.1))>192) (some (3,x))<|q (room x.2.1 h.1) ((L.run (λp:(List Ap)×Int=>q (p.2<ln h.1) (q (room p.1 ([(A1 ((ln x.2.1)+p.2),(-1),x.2.2.2.2.2.2.2.1.2.1,false)])) (nx (p.1++([(A1 ((ln x.2.1)+p.2),(-1),x.2.2.2.2.2.2.2.1.2.1,false)]),A1 (p.2+1)))<|none)<|dx p.1) ([],0)).bind (AF λr:List Ap=>(c (r,x.1,(x.2.1++h.1,x.2.2.1,x.2.2.2.1,x.2.2.2.2.1,x.2.2.2.2.2.1,x.2.2.2.2.2.2.1),x.2.2.2.2.2.2.2)).bind λs=>some (s.1,s.2.1,s.2.2.1.1,s.2.2.1.2.1,s.2.2.1.2.2.1,s.2.2.1.2.2.2.1,s.2.2.1.2.2.2.2.1,s.2.2.1.2.2.2.2.2,s.2.2.2)))<|none))<|(e (x.2.2.2.1,x.2.2.2.2.2.2.2.1.2.1)).bind λt=>q t.1 (some (17,x))<|(a x.2.2.2.2.2.2.2.1.2.2.2.2.2.2.2.2.2).bind λu=>q (u.2 != 0) (some (u.2,x))<|(L.run (λv:Int=>q (v<ln x.2.2.1) (ib x.2.2.1 v λw=>L.run (λy:Int=>q (y<ln w) (ib w y λz=>ib x.2.1 z λA=>(b (u.1,(A7 x.2.1 z A).1)).bind λB=>q B.1 (dn (.done (.done (8,x))))<|nx (A1 (y+1)))<|dx (A1 (v+1))) 0)<|dx ()) 0).bind (AF λC:PUnit=>q (A1 ((ln x.2.1)+(ln u.1))>192) (some (3,x))<|q (room x.2.1 u.1) ((L.run (λD:(List Ap)×Int=>q (D.2<ln u.1) (q (room D.1 ([(A1 ((ln x.2.1)+D.2),(-1),x.2.2.2.2.2.2.2.1.2.1,false)])) (nx (D.1++([(A1 ((ln x.2.1)+D.2),(-1),x.2.2.2.2.2.2.2.1.2.1,false)]),A1 (D.2+1)))<|none)<|dx D.1) ([],0)).bind (AF λE:List Ap=>(c (E,x.1,(x.2.1++u.1,x.2.2.1,x.2.2.2.1,x.2.2.2.2.1,x.2.2.2.2.2.1,x.2.2.2.2.2.2.1),x.2.2.2.2.2.2.2)).bind λG=>some (G.1,G.2.1,G.2.2.1.1,G.2.2.1.2.1,G.2.2.1.2.2.1,G.2.2.1.2.2.2.1,G.2.2.1.2.2.2.2.1,G.2.2.1.2.2.2.2.2,G.2.2.2)))<|none))<|some (2,x)
def F94:T94:=B94 std Sz Gu Qv JY EA
def S94 (F:T94):Nat×Be:=⟨94,1,[49],[(0,.ptr 0)],[zc 0 0 A5,.cell 0 5 (.own A9 60),zc 0 6 (.sl li),zc 0 7 (.sl A3),zc 0 8 .bool,zc 0 9 Ae,zc 0 18 .bool,zc 0 19 An,zc 0 31 AP],[r0 ti,zc 0 0 A5,zc 0 5 (.sl A9),zc 0 6 (.sl li),zc 0 7 (.sl A3),zc 0 8 .bool,zc 0 9 Ae,zc 0 18 .bool,zc 0 19 An,zc 0 31 AP],false,F⟩
abbrev Iw:=((List (List UInt8))×A0)→Option (Int×A0)
def Oe (L:Lp) (a:dJ):Iw:=λx=>
 L.run (λb:Int=>q (b<ln x.1) (ib x.1 b λc=>(a (x.2.2.2,c)).bind λd=>q d (dn (b,x.2))<|nx (A1 (b+1)))<|dn ((-1),x.2)) 0
def Of:Iw:=Oe std dK
def Og (F:Iw):Nat×Be:=⟨213,2,[3],[(1,.fn 147 [] [.ptr 0])],[a0 (.sl .str),zc 0 0 .str,zc 0 1 ti,zc 0 2 (.sl .str)],[r0 ti,zc 0 0 .str,zc 0 1 ti,zc 0 2 (.sl .str)],false,F⟩
abbrev Ix:=((List (List UInt8))×A0)→Option (Bool×A0)
def Oh (L:Lp) (a:Iw):Ix:=λx=>
 (a x).bind λb=>some (decide (b.1≥0),b.2)
def Iy:Ix:=Oh std Of
def Oj (F:Ix):Nat×Be:=⟨146,2,[3],[(1,.fn 147 [] [.ptr 0])],[a0 (.sl .str),zc 0 0 .str,zc 0 1 ti,zc 0 2 (.sl .str)],[r0 .bool,zc 0 0 .str,zc 0 1 ti,zc 0 2 (.sl .str)],false,F⟩
abbrev vP:=List (List UInt8)→Option (List (List UInt8))
def dX:vP:=λx=>bif Nat.ble x.length 4294967296 then some x else none
def M02 (F:vP):Be:=⟨1,[],[],[a0 (.sl .str)],[o0 .str 9],false,F⟩
abbrev T91:=A0→Option A0
def B91 (L:Lp) (a:vP):T91:=λx=>
 (a x.2.2).bind λb=>some (x.1,x.2.1,b)
def yy:T91:=B91 std dX
def S91 (F:T91):=sp 91 1 [a0 A3] [r0 A3] F
abbrev T95:=(A2×(List A6)×(List (List Int))×(List A0)×Bool×Ab×Bool×Ah×Ag)→Option (Int×A2×(List A6)×(List (List Int))×(List A0)×Bool×Ab×Bool×Ah×Ag)
def B95 (L:Lp) (a:dL) (b:Ix) (c:T91):T95:=λx=>
 q x.2.2.2.2.1 (some (25,x))<|(a (x.1,x.2.2.2.2.2.2.2.1.2.2.2.2.2.2.2.1)).bind λd=>q (!d) (some (1,x))<|(L.run (λe:Int=>q (e<ln x.2.2.2.1) (ib x.2.2.2.1 e λf=>(b (x.2.2.2.2.2.2.2.1.2.2.2.2.2.2.2.1.2.2,(A7 x.2.2.2.1 e f).1,((A7 x.2.2.2.1 e f).2).1,((A7 x.2.2.2.1 e f).2).2)).bind λg=>q g.1 (dn (.done (8,x)))<|q (g.2.1==x.2.2.2.2.2.2.2.1.2.2.2.2.2.2.2.1.1) (dn (.done (8,x)))<|q (g.2.2.1==x.2.2.2.2.2.2.2.1.2.2.2.2.2.2.2.1.2.1) (dn (.done (8,x)))<|nx (A1 (e+1)))<|dx ()) 0).bind (AF λh:PUnit=>q ((ln x.2.2.2.1)==8) (some (18,x))<|ib x.2.2.1 x.2.2.2.2.2.2.2.1.2.2.2.2.2.2.2.1.2.1 λi=>q (ln i>0) (some (17,x))<|(c x.2.2.2.2.2.2.2.1.2.2.2.2.2.2.2.1).bind λj=>q (room x.2.2.2.1 ([j])) (some (0,x.1,x.2.1,x.2.2.1,x.2.2.2.1++([j]),x.2.2.2.2))<|none)
def F95:T95:=B95 std dM Iy yy
def S95 (F:T95):Nat×Be:=⟨95,1,[49],[(0,.ptr 0)],[zc 0 0 A5,zc 0 5 (.sl A9),zc 0 6 (.sl li),.cell 0 7 (.own A3 80),zc 0 8 .bool,zc 0 9 Ae,zc 0 18 .bool,zc 0 19 An,zc 0 31 AP],[r0 ti,zc 0 0 A5,zc 0 5 (.sl A9),zc 0 6 (.sl li),zc 0 7 (.sl A3),zc 0 8 .bool,zc 0 9 Ae,zc 0 18 .bool,zc 0 19 An,zc 0 31 AP],false,F⟩
abbrev dY:=AR→Option (Int×AR)
def vQ (L:Lp):dY:=λx=>
 (q (room [x.2.2.1.2.1] x.2.2.1.2.2.2.2.2.1) (L.run (λa:Int=>q (a<ln ([x.2.2.1.2.1]++x.2.2.1.2.2.2.2.2.1)) (ib ([x.2.2.1.2.1]++x.2.2.1.2.2.2.2.2.1) a λb=>q (A7 ([x.2.2.1.2.1]++x.2.2.1.2.2.2.2.2.1) a b≥0) (q (!(A7 ([x.2.2.1.2.1]++x.2.2.1.2.2.2.2.2.1) a b<ln x.1.1)) (dn (.done (2,x)))<|nx (A1 (a+1)))<|dn (.done (2,x)))<|dx ()) 0)<|none).bind (AF λc:PUnit=>q (x.2.2.1.2.2.2.2.1<0) (some (2,x))<|q (x.2.2.1.2.2.2.2.1>12) (some (2,x))<|some (0,x))
def dZ:dY:=vQ std
def lZ (F:dY):Nat×Be:=⟨149,1,[49],[(0,.ptr 0)],[zc 0 0 A5,zc 0 5 AO,zc 0 19 An,zc 0 31 ti,zc 0 32 (.sl Aj),zc 0 33 AK,.cell 0 36 (.own Ai 170),zc 0 37 AU,zc 0 47 ti,zc 0 48 ti],[r0 ti,zc 0 0 A5,zc 0 5 AO,zc 0 19 An,zc 0 31 ti,zc 0 32 (.sl Aj),zc 0 33 AK,.cell 0 36 (.own Ai 170),zc 0 37 AU,zc 0 47 ti,zc 0 48 ti],false,F⟩
abbrev e8:=AR→Option (Int×AR)
def vR (L:Lp) (a:JX) (b:Ez):e8:=λx=>
 (L.run (λc:Int=>q (c<ln x.2.2.1.2.2.2.2.2.1) (ib x.2.2.1.2.2.2.2.2.1 c λd=>q (d==x.2.2.1.2.1) (dn (.done (17,x)))<|(b (x.2.1.2.2.1,d)).bind λe=>q e.1 (dn (.done (17,x)))<|(sub x.2.2.1.2.2.2.2.2.1 0 c).bind λf=>(a (f,d)).bind λg=>q g (dn (.done (17,x)))<|nx (A1 (c+1)))<|dx ()) 0).bind (AF λh:PUnit=>(b (x.2.1.2.2.1,x.2.2.1.2.1)).bind λi=>q i.1 (some (17,x))<|some (0,x))
def e9:e8:=vR std JY EA
def m8 (F:e8):Nat×Be:=⟨150,1,[49],[(0,.ptr 0)],[zc 0 0 A5,zc 0 5 AO,zc 0 19 An,zc 0 31 ti,zc 0 32 (.sl Aj),zc 0 33 AK,.cell 0 36 (.own Ai 170),zc 0 37 AU,zc 0 47 ti,zc 0 48 ti],[r0 ti,zc 0 0 A5,zc 0 5 AO,zc 0 19 An,zc 0 31 ti,zc 0 32 (.sl Aj),zc 0 33 AK,.cell 0 36 (.own Ai 170),zc 0 37 AU,zc 0 47 ti,zc 0 48 ti],false,F⟩
abbrev Ya:=(AH×Int)→Option (Int×Int)
def M04 (L:Lp) (a:V1):Ya:=λx=>
 L.run (λb:Int=>q (b<ln x.1.2.2.1) (ib x.1.2.2.1 b λc=>ib x.1.1 x.2 λd=>(a (c.2.2,d.2.2.2.2.2.2.2)).bind λe=>q (e≥0) (dn (b,e))<|nx (A1 (b+1)))<|dn ((-1),(-1))) 0
def V3:Ya:=M04 std Y7
def eb (F:Ya):=sq 152 2 [a0 AO,a1 ti] [r0 ti,r1 ti] F
abbrev ed:=(AH×Int)→Option (Aa×Bool)
def vS (L:Lp) (a:Ya):ed:=λx=>
 (a x).bind λb=>ib x.1.1 x.2 λc=>some ((b.1,b.2,0,c.2.1),decide (b.1≥0))
def Yc:ed:=vS std V3
def m9 (F:ed):=sq 151 2 [a0 AO,a1 ti] [r0 Ai,r1 .bool] F
abbrev Qw:=Bb→Option Int
def ma (L:Lp):Qw:=λx=>
 q (ln x.1>96) (some 3)<|q (x.2≥0) (q (!(x.2≤12)) (some 2)<|L.run (λa:Int=>q (a<ln x.1) (ib x.1 a λb=>q (b.1≥0) (q (!(b.1≤15)) (dn 2)<|q (b.2.1≥0) (q (!(b.2.1≤31)) (dn 2)<|q (b.2.2.1≥0) (q (!(b.2.2.1≤12)) (dn 2)<|q (b.2.2.2≥1) (q (!(b.2.2.2≤400)) (dn 2)<|q (a>0) (ib x.1 (A1 (a-1)) λc=>q (b.2.2.1<c.2.2.1) (dn 12)<|nx (A1 (a+1)))<|nx (A1 (a+1)))<|dn 2)<|dn 2)<|dn 2)<|dn 2)<|dn 0) 0)<|some 2
def Jt:Qw:=ma std
def SB (F:Qw):=sq 229 1 [a0 Cx] [r0 ti] F
abbrev ef:=Int→Option (Int×Int)
def vT (L:Lp):ef:=λx=>
 q (x≥0) (q (!(x≤4095)) (some (0,2))<|L.run (λa:Int×Int=>q (a.1>0) (nx (DV .i64 a.1 1,A1 (a.2+1)))<|dn (a.2,0)) (x,0))<|some (0,2)
def ej:ef:=vT std
def mb (F:ef):=sq 283 1 [a0 ti] [r0 ti,r1 ti] F
abbrev em:=(Int×Int)→Option Bool
def vU (L:Lp):em:=λx=>
 q (x.1≥0) (q (x.1≤12) (q (x.2≥0) (some (decide (x.2≤12)))<|some false)<|some false)<|some false
def eu:em:=vU std
def mc (F:em):=sq 349 2 [a0 ti,a1 ti] [r0 .bool] F
abbrev ew:=Int→Option Int
def vV (L:Lp):ew:=λx=>
 L.run (λa:Int×Int=>q (a.1 != 0) (nx (CF .i64 a.1 (A1 (a.1-1)),A1 (a.2+1)))<|dn a.2) (x,0)
def Yd:ew:=vV std
def md (F:ew):=sq 351 1 [a0 ti] [r0 ti] F
abbrev ey:=(Int×Int×Int)→Option (Int×Int)
def vW (L:Lp) (a:em) (b:ew):ey:=λx=>
 (a x.2).bind λc=>q (!c) (some (0,2))<|q (x.1<0) (some (0,2))<|q (x.1≥4096) (some (0,15))<|(q (!(x.2.1<0)) (q (x.1>A1 ((Gs .i64 1 x.2.1)-1)) (q (!(x.2.1<0)) (q (!(x.2.1<0)) (nx (DV .i64 (A1 ((A1 ((A1 (x.1-(A1 ((Gs .i64 1 x.2.1)-1))))+(Gs .i64 1 x.2.1)))-1)) x.2.1))<|none)<|none)<|nx 0)<|none).bind (AF λd:Int=>(L.run (λe:Int=>(b e).bind λf=>q (f>x.2.2) (q (A1 (e+(CF .i64 e (A1 (0-e))))≥4096) (dn (.done (0,15)))<|nx (A1 (e+(CF .i64 e (A1 (0-e))))))<|dx e) d).bind (AF λg:Int=>q (!(x.2.1<0)) (q (!(x.2.1<0)) (q (yV .i64 (Gs .i64 g x.2.1) (A1 ((Gs .i64 1 x.2.1)-1))<4096) (some (yV .i64 (Gs .i64 g x.2.1) (A1 ((Gs .i64 1 x.2.1)-1)),0))<|some (0,15))<|none)<|none))
def Ye:ey:=vW std eu Yd
def me (F:ey):=sq 334 3 [a0 ti,a1 ti,a2 ti] [r0 ti,r1 ti] F
abbrev ez:=(Bb×List (List Int))→Option ((List Int)×(List Int)×Int)
def vX (L:Lp) (a:ey):ez:=λx=>
 q (Dh (ln x.1.1)) ((L.run (λb:AC=>q (b.1<ln (List.replicate (Int.toNat (ln x.1.1)) (0:Int))) (ib b.2 b.1 λc=>nx (A1 (b.1+1),List.set b.2 (Int.toNat b.1) b.1))<|dx b.2) (0,List.replicate (Int.toNat (ln x.1.1)) 0)).bind (AF λd:List Int=>(L.s3 x.1 d).bind λe=>q (Dh (ln e)) (q (Dh (ln e)) (L.run (λf:(List Int)×(List Int)×Int=>q (f.2.2<ln e) (ib e f.2.2 λg=>(L.run (λh:AC=>q (h.1<ln x.1.1) (ib x.2 h.1 λi=>ib i (A7 e f.2.2 g) λj=>q (j>0) (ib h.2 (A7 e f.2.2 g) λk=>ib f.2.1 h.1 λl=>ib h.2 (A7 e f.2.2 g) λm=>nx (A1 (h.1+1),List.set h.2 (Int.toNat (A7 e f.2.2 g)) (max (A7 h.2 (A7 e f.2.2 g) k) (A1 ((A1 ((A7 f.2.1 h.1 l)+j))-1)))))<|nx (A1 (h.1+1),h.2))<|dx h.2) (0,f.1)).bind (AF λn:List Int=>ib n (A7 e f.2.2 g) λo=>ib x.1.1 (A7 e f.2.2 g) λp=>(a (A7 n (A7 e f.2.2 g) o,p.2.2.1,x.1.2)).bind λr=>q (r.2 != 0) (dn ([],[],r.2))<|ib f.2.1 (A7 e f.2.2 g) λs=>nx (n,List.set f.2.1 (Int.toNat (A7 e f.2.2 g)) r.1,A1 (f.2.2+1))))<|dn (f.1,f.2.1,0)) (List.replicate (Int.toNat (ln e)) 0,List.replicate (Int.toNat (ln e)) 0,0))<|none)<|none))<|none
def V4:ez:=vX std Ye
def mf (F:ez):=sp 290 2 [a0 Cx,a1 (.sl li)] [r0 li,o1 ti 3,r2 ti] F
abbrev eA:=Bb→Option (List (List Int))
def Yh:eA:=λx=>if x.1.length≤1000 then some (Js x.1) else none
def mg (F:eA):Be:=⟨1,[],[],[a0 Cx],[r0 (.sl li)],false,F⟩
abbrev mh:=Bb→Option (AC×Int)
def vY (L:Lp) (a:Qw) (b:ef) (c:ez) (d:eA):mh:=λx=>
 (a x).bind λe=>q (e != 0) (some ((0,[]),e))<|(d x).bind λf=>(c (x,f)).bind λg=>q (g.2.2 != 0) (some ((0,[]),g.2.2))<|L.run (λh:Int×Int=>q (h.1<ln g.2.1) (ib g.2.1 h.1 λi=>(b (A7 g.2.1 h.1 i)).bind λj=>nx (A1 (h.1+1),max h.2 j.1))<|dn ((h.2,g.2.1),0)) (0,0)
def mj:mh:=vY std Jt ej V4 Yh
def vZ (F:mh):=sp 259 1 [a0 Cx] [r0 ME,r1 ti] F
abbrev ml:=List Int→Option Int
def w5 (L:Lp):ml:=λx=>
 (q (ln x<1) none<|nx ()).bind (AF λa:PUnit=>ib x 0 λb=>L.run (λc:Int×Int=>q (c.2<ln x) (ib x c.2 λd=>nx (max c.1 d,A1 (c.2+1)))<|dn c.1) (b,1))
def mn:ml:=w5 std
def w6 (F:ml):=sq 292 1 [a0 li] [r0 ti] F
abbrev mo:=Bb→Option ((List Int)×Int)
def w7 (L:Lp) (a:MK) (b:Qw) (c:ez) (d:eA) (e:ml):mo:=λx=>
 (b x).bind λf=>q (f != 0) (some ([],f))<|(d x).bind λg=>(c (x,g)).bind λh=>q (h.2.2 != 0) (some ([],h.2.2))<|q ((ln h.2.1)==0) (some ([],0))<|(e h.2.1).bind λi=>(a (h.2.1,i)).bind λj=>(L.run (λk:AC=>ib h.1 k.1 λl=>q (l>0) (L.run (λm:Int×Int=>q (m.2<ln h.2.1) (ib g m.2 λn=>ib n m.1 λo=>q (o>0) (ib h.2.1 m.2 λp=>ib h.1 m.1 λr=>q ((A1 ((A1 ((A7 h.2.1 m.2 p)+o))-1))==r) (q (room k.2 [m.2]) (dx (m.2,k.2++[m.2]))<|none)<|nx (m.1,A1 (m.2+1)))<|nx (m.1,A1 (m.2+1)))<|q (room k.2 [m.1]) (dx (m.1,k.2++[m.1]))<|none) (k.1,0))<|dx k.2) (j,[j])).bind (AF λs:List Int=>L.run (λt:Int×AC=>q (t.1<t.2.1) (ib t.2.2 t.2.1 λu=>ib t.2.2 t.1 λv=>ib t.2.2 t.1 λw=>ib (List.set t.2.2 (Int.toNat t.1) (A7 t.2.2 t.2.1 u)) t.2.1 λy=>nx (A1 (t.1+1),A1 (t.2.1-1),List.set (List.set t.2.2 (Int.toNat t.1) (A7 t.2.2 t.2.1 u)) (Int.toNat t.2.1) (A7 t.2.2 t.1 v)))<|dn (t.2.2,0)) (0,A1 ((ln s)-1),s))
def mq:mo:=w7 std ML Jt V4 Yh mn
def w8 (F:mo):=sp 260 1 [a0 Cx] [o0 ti 3,r1 ti] F
abbrev eB:=Bb→Option (BE×Int)
def w9 (L:Lp) (a:mh) (b:mo):eB:=λx=>
 (a x).bind λc=>q (c.2 != 0) (some (((0,[]),[]),c.2))<|(b x).bind λd=>q (d.2 != 0) (some (((0,[]),[]),d.2))<|some ((c.1,d.1),0)
def JZ:eB:=w9 std mj mq
def mr (F:eB):=sp 215 1 [a0 Cx] [r0 AK,r1 ti] F
abbrev Iz:=(Bb×AC×AR)→Option (Int×AR)
def Ol (L:Lp):Iz:=λx=>
 q (x.2.1.1>ln x.2.2.2.2.1.2.2.2.2.2.1) (some (14,x.2.2))<|(L.run (λa:Int=>q (a<x.2.1.1) ((L.run (λb:Int×Int=>q (b.2<ln x.1.1) (ib x.1.1 b.2 λc=>ib x.2.1.2 b.2 λd=>q (!(a<0)) (q ((CF .i64 (DV .i64 d a) 1)==1) (nx (A1 (b.1+c.2.2.2),A1 (b.2+1)))<|nx (b.1,A1 (b.2+1)))<|none)<|dx b.1) (0,0)).bind (AF λe:Int=>ib x.2.2.2.2.1.2.2.2.2.2.1 a λf=>ib x.2.2.1.1 f λg=>q (e>g.2) (dn (.done (14,x.2.2)))<|nx (A1 (a+1))))<|dx ()) 0).bind (AF λh:PUnit=>L.run (λi:Int=>q (i<ln x.2.2.2.1.2.2.1) (ib x.2.2.2.1.2.2.1 i λj=>(L.run (λk:Int×Int=>q (k.2<ln x.1.1) (ib x.1.1 k.2 λl=>q (l.1==i) (nx (A1 (k.1+l.2.2.2),A1 (k.2+1)))<|nx (k.1,A1 (k.2+1)))<|dx k.1) (0,0)).bind (AF λm:Int=>(ib x.2.2.2.1.2.1 j.2.1 λn=>L.run (λo:Int×Int=>q (o.2<ln n) (ib n o.2 λp=>ib x.2.2.2.1.1 p λr=>nx (A1 (o.1+r.2.1),A1 (o.2+1)))<|dx o.1) (m,0)).bind (AF λs:Int=>ib x.2.2.1.1 j.2.1 λt=>q (s>t.2) (dn (14,x.2.2))<|nx (A1 (i+1)))))<|dn (0,x.2.2)) 0)
def IA:Iz:=Ol std
def Om (F:Iz):Nat×Be:=⟨216,4,[49],[(0,.ptr 0),(3,.fn 154 [] [])],[a1 Cx,a2 ME]++cW,[r0 ti]++cW,false,F⟩
abbrev yz:=BE→Option BE
def B93 (L:Lp) (a:kV):yz:=λx=>
 (a x.1.2).bind λb=>(a x.2).bind λc=>some ((x.1.1,b),c)
def wa:yz:=B93 std W5
def S93 (F:yz):=sp 93 1 [a0 AK] [r0 AK] F
abbrev IB:=((List Int)×Bb×AR)→Option (Int×AR)
def On (L:Lp) (a:eB) (b:Iz) (c:kV) (d:yz):IB:=λx=>
 (a x.2.1).bind λe=>q (e.2 != 0) (some (e.2,x.2.2))<|(b (x.2.1,e.1.1,x.2.2)).bind λf=>q (f.1 != 0) (some f)<|(sub f.2.2.2.1.2.2.2.2.2.1 0 e.1.1.1).bind λg=>(c g).bind λh=>(d e.1).bind λi=>some (0,f.2.1,(f.2.2.1.1,f.2.2.1.2.1,f.2.2.1.2.2.1,true,(x.1,x.2.1,e.1,f.2.2.2.1.2.1,h,0),false),f.2.2.2.1,f.2.2.2.2.1,f.2.2.2.2.2.1,i,f.2.2.2.2.2.2.2)
def IC:IB:=On std JZ IA W5 wa
def Oo (F:IB):Nat×Be:=⟨153,4,[49],[(0,.ptr 0),(3,.fn 154 [] [])],[a1 li,a2 Cx]++cW,[r0 ti]++cW,false,F⟩
abbrev T96:=AR→Option (Int×AR)
def B96 (L:Lp) (a:dY) (b:e8) (c:ed) (d:Ya) (e:IB) (f:kV):T96:=λx=>
 q x.2.1.2.2.2.1 (some (25,x))<|(a x).bind λg=>q (g.1 != 0) (some g)<|(b g.2).bind λh=>q (h.1 != 0) (some h)<|(L.run (λi:Int=>q (i<ln h.2.2.2.1.2.2.2.2.2.1) (ib h.2.2.2.1.2.2.2.2.2.1 i λj=>ib h.2.2.1.2.1 j λk=>q (ln k>0) (dn (.done (17,h.2)))<|nx (A1 (i+1)))<|dx ()) 0).bind (AF λl:PUnit=>ib h.2.2.1.2.1 h.2.2.2.1.2.1 λm=>(f m).bind λn=>(L.run (λo:Int×List Aa=>q (o.1<ln n) (ib n o.1 λp=>(c (h.2.2.1,A7 n o.1 p)).bind λr=>q (!r.2) (dn (.done (13,h.2)))<|q (room o.2 ([r.1])) (nx (A1 (o.1+1),o.2++([r.1])))<|none)<|dx o.2) (0,[])).bind (AF λs:List Aa=>q ((ln n)==0) (some (13,h.2))<|(L.run (λt:Int=>q (t<ln s) (ib s t λu=>ib h.2.2.1.2.2.1 ((A7 s t u).1) λv=>ib h.2.2.1.2.1 v.2.1 λw=>q ((ln w)==0) (nx (A1 (t+1)))<|ib w (A1 ((ln w)-1)) λy=>(d (h.2.2.1,y)).bind λz=>q (((A7 s t u).2).1<z.2) (dn (.done (12,h.2)))<|nx (A1 (t+1)))<|dx ()) 0).bind (AF λA:PUnit=>(e (n,(s,h.2.2.2.1.2.2.2.2.1),h.2)).bind λB=>some B)))
def F96:T96:=B96 std dZ e9 Yc V3 IC W5
def S96 (F:T96):Nat×Be:=⟨96,1,[49],[(0,.ptr 0)],[zc 0 0 A5,zc 0 5 AO,zc 0 19 An,zc 0 31 ti,zc 0 32 (.sl Aj),zc 0 33 AK,.cell 0 36 (.own Ai 170),zc 0 37 AU,zc 0 47 ti,zc 0 48 ti],[r0 ti,zc 0 0 A5,zc 0 5 AO,zc 0 19 An,zc 0 31 ti,zc 0 32 (.sl Aj),zc 0 33 AK,zc 0 36 (.sl Ai),zc 0 37 AU,zc 0 47 ti,zc 0 48 ti],false,F⟩
abbrev ms:=Ab→Option Int
def mw (L:Lp):ms:=λx=>
 q (x.2.2.2.2.2==0) (some x.2.2.2.1)<|ib x.2.2.2.2.1 (A1 (x.2.2.2.2.2-1)) λa=>some a
def eC:ms:=mw std
def wb (F:ms):=sq 155 1 [a0 Ae] [r0 ti] F
abbrev my:=(AH×Int)→Option Int
def wd (L:Lp) (a:Ya) (b:MK):my:=λx=>
 (b (x.1.2.2.2.2.1.1,x.2)).bind λc=>ib x.1.2.2.2.2.1.2.2.1.1.2 c λd=>(L.run (λe:Int=>q (e<ln x.1.2.2.2.2.1.2.2.2.2.1) (q (!(e<0)) (q ((CF .i64 (DV .i64 d e) 1)==1) (ib x.1.2.2.2.2.1.2.2.2.2.1 e λf=>dn (.done f))<|nx (A1 (e+1)))<|none)<|dx ()) x.1.2.2.2.2.1.2.2.2.2.2).bind (AF λg:PUnit=>(a x).bind λh=>ib x.1.2.2.1 h.1 λi=>some i.2.1)
def mz:my:=wd std V3 ML
def we (F:my):=sq 157 2 [a0 AO,a1 ti] [r0 ti] F
abbrev T97:=AR→Option (Int×AR)
def B97 (L:Lp) (a:Sy) (b:ms) (c:my):T97:=λx=>
 q (!x.2.1.2.2.2.1) (some (16,x))<|q x.2.1.2.2.2.2.2 (some (25,x))<|(b x.2.1.2.2.2.2.1).bind λd=>ib x.2.1.2.1 d λe=>q (ln x.2.2.1.2.2.2.2.2.2.1>16) ((some (3,x)).bind λf=>some f)<|L.run (λg:Int=>q (g<ln x.2.2.1.2.2.2.2.2.2.1) (ib x.2.2.1.2.2.2.2.2.2.1 g λh=>q (h.1<0) ((some (2,x)).bind λi=>dn i)<|q (h.1≥ln e) ((some (2,x)).bind λj=>dn j)<|q (h.2≥0) (q (!(h.2<ln x.1.1)) ((some (2,x)).bind λk=>dn k)<|nx (A1 (g+1)))<|(some (2,x)).bind λl=>dn l)<|L.run (λm:Int×List (Int×Int)=>q (m.1<ln x.2.2.1.2.2.2.2.2.2.1) (ib x.2.2.1.2.2.2.2.2.2.1 m.1 λn=>q (cJ m.2 n.1) ((some (8,x)).bind λo=>dn (.done o))<|nx (A1 (m.1+1),H9 m.2 n.1 n.2))<|L.run (λp:Int=>q (p<ln x.2.2.1.2.2.2.2.2.2.1) (ib x.2.2.1.2.2.2.2.2.2.1 p λr=>q (r.2==d) ((some (17,x)).bind λs=>dn (.done (.done s)))<|nx (A1 (p+1)))<|((L.run (λt:Bool×(List Ap)×Int=>q (t.2.2<ln e) (ib e t.2.2 λu=>(c (x.2.1,u)).bind λv=>q (cJ m.2 t.2.2) (q ((Ss m.2 t.2.2 0)!=v) (q (room t.2.1 ([(u,d,Ss m.2 t.2.2 0,false)])) (nx (true,t.2.1++([(u,d,Ss m.2 t.2.2 0,false)]),A1 (t.2.2+1)))<|none)<|q (room t.2.1 ([(u,d,v,false)])) (nx (t.1,t.2.1++([(u,d,v,false)]),A1 (t.2.2+1)))<|none)<|q (room t.2.1 ([(u,d,v,false)])) (nx (t.1,t.2.1++([(u,d,v,false)]),A1 (t.2.2+1)))<|none)<|dx (t.1,t.2.1)) (false,[],0)).bind (AF λw:Bool×List Ap=>(a (w.2,x)).bind λy=>q (y.1 != 0) (some y)<|q w.1 (some (0,y.2.1,(y.2.2.1.1,y.2.2.1.2.1,y.2.2.1.2.2.1,y.2.2.1.2.2.2.1,(y.2.2.1.2.2.2.2.1.1,y.2.2.1.2.2.2.2.1.2.1,y.2.2.1.2.2.2.2.1.2.2.1,y.2.2.1.2.2.2.2.1.2.2.2.1,y.2.2.1.2.2.2.2.1.2.2.2.2.1,A1 (y.2.2.1.2.2.2.2.1.2.2.2.2.2+1)),true),y.2.2.2))<|q (A1 (y.2.2.1.2.2.2.2.1.2.2.2.2.2+1)>y.2.2.1.2.2.2.2.1.2.2.1.1.1) (some (0,y.2.1,(y.2.2.1.1,y.2.2.1.2.1,y.2.2.1.2.2.1,false,([],([],0),((0,[]),[]),0,[],0),false),y.2.2.2))<|some (0,y.2.1,(y.2.2.1.1,y.2.2.1.2.1,y.2.2.1.2.2.1,y.2.2.1.2.2.2.1,(y.2.2.1.2.2.2.2.1.1,y.2.2.1.2.2.2.2.1.2.1,y.2.2.1.2.2.2.2.1.2.2.1,y.2.2.1.2.2.2.2.1.2.2.2.1,y.2.2.1.2.2.2.2.1.2.2.2.2.1,A1 (y.2.2.1.2.2.2.2.1.2.2.2.2.2+1)),y.2.2.1.2.2.2.2.2),y.2.2.2))).bind λz=>dn (.done (.done z))) 0) (0,[])) 0
def F97:T97:=B97 std Qv eC mz
def S97 (F:T97):Nat×Be:=⟨97,1,[49],[(0,.ptr 0)],cW,[r0 ti]++cW,false,F⟩
abbrev mA:=AH→Option (Ac×(List Int)×Int)
def wh (L:Lp) (a:ed) (b:JX) (c:MK):mA:=λx=>
 q (!x.2.2.2.2.2) (some (([],[],[]),[],16))<|(L.run (λd:AC=>q (d.1<ln x.2.2.1) (ib x.2.2.1 d.1 λe=>q (room d.2 [e.2.1]) (nx (A1 (d.1+1),d.2++[e.2.1]))<|none)<|dx d.2) (0,[])).bind (AF λf:List Int=>(L.run (λg:AC=>q (g.1<ln x.2.1) (ib x.2.1 g.1 λh=>L.run (λi:AC=>q (i.1<ln h) (ib h i.1 λj=>(b (f,g.1)).bind λk=>q k (q (room i.2 [j]) (nx (A1 (i.1+1),i.2++[j]))<|none)<|(b (x.2.2.2.2.1.1,j)).bind λl=>q l (q (room i.2 [j]) (nx (A1 (i.1+1),i.2++[j]))<|none)<|nx (A1 (i.1+1),i.2))<|dx (A1 (g.1+1),i.2)) (0,g.2))<|dx g.2) (0,[])).bind (AF λm:List Int=>(L.s1 m).bind λn=>q (ln n>96) (some (([],[],[]),[],3))<|(L.run (λo:Int×List Aa=>q (o.1<ln n) (ib n o.1 λp=>(a (x,A7 n o.1 p)).bind λr=>q (room o.2 ([r.1])) (nx (A1 (o.1+1),o.2++([r.1])))<|none)<|dx o.2) (0,[])).bind (AF λs:List Aa=>L.run (λt:Int×List (List Int)=>q (t.1<ln x.2.1) (ib x.2.1 t.1 λu=>(L.run (λv:(List Int)×Int=>q (v.2<ln u) (ib u v.2 λw=>(c (n,w)).bind λy=>q (y≥0) (q (room v.1 [y]) (nx (v.1++[y],A1 (v.2+1)))<|none)<|nx (v.1,A1 (v.2+1)))<|dx v.1) ([],0)).bind (AF λz:List Int=>q (room t.2 [z]) (nx (A1 (t.1+1),t.2++[z]))<|none))<|dn ((s,f,t.2),n,0)) (0,[]))))
def mB:mA:=wh std Yc JY ML
def wi (F:mA):=sp 159 1 [a0 AO] [r0 AB,r1 li,r2 ti] F
abbrev Yj:=Ac→Option ((List (Int×Int))×Bool)
def wj (L:Lp):Yj:=λx=>
 q (Dh (ln x.1)) (q (Dh (ln x.1)) ((L.run (λa:Int×Int×(List (Int×Int))×List Bool=>q (a.2.1<ln x.2.2) (ib x.2.2 a.2.1 λb=>L.run (λc:Int×Int×(List Bool)×List (Int×Int)=>q (c.2.1<ln b) (ib b c.2.1 λd=>q (d<0) (dn (.done (.done ([],false))))<|q (d≥ln c.2.2.2) (dn (.done (.done ([],false))))<|ib c.2.2.1 d λe=>q (A7 c.2.2.1 d e) (dn (.done (.done ([],false))))<|ib c.2.2.2 d λf=>ib c.2.2.1 d λg=>nx (A1 (c.1+1),A1 (c.2.1+1),List.set c.2.2.1 (Int.toNat d) true,List.set c.2.2.2 (Int.toNat d) (a.2.1,c.2.1)))<|dx (c.1,A1 (a.2.1+1),c.2.2.2,c.2.2.1)) (a.1,0,a.2.2.2,a.2.2.1))<|dx (a.1,a.2.2.2,a.2.2.1)) (0,0,List.replicate (Int.toNat (ln x.1)) (0,0),List.replicate (Int.toNat (ln x.1)) false)).bind (AF λh:Int×(List Bool)×List (Int×Int)=>some (h.2.2,h.1==(ln h.2.2))))<|none)<|none
def K0:Yj:=wj std
def eD (F:Yj):=sp 263 1 [a0 AB] [o0 (.pair ti ti) 362,r1 .bool] F
abbrev eE:=Ac→Option Bool
def wk (L:Lp) (a:JX) (b:Yj):eE:=λx=>
 q (ln x.1>96) (some false)<|q (ln x.2.1>16) (some false)<|q (ln x.2.2>24) (some false)<|(L.run (λc:Int=>q (c<ln x.2.1) (ib x.2.1 c λd=>q (d<0) (dn (.done false))<|q (d≥ln x.2.2) (dn (.done false))<|(sub x.2.1 0 c).bind λe=>(a (e,d)).bind λf=>q f (dn (.done false))<|nx (A1 (c+1)))<|dx ()) 0).bind (AF λg:PUnit=>(L.run (λh:Int=>q (h<ln x.1) (ib x.1 h λi=>q (i.1<0) (dn (.done false))<|q (i.1≥ln x.2.1) (dn (.done false))<|q (i.2.1<0) (dn (.done false))<|q (i.2.1≥32) (dn (.done false))<|q (i.2.2.1 != 0) (dn (.done false))<|q (i.2.2.2<1) (dn (.done false))<|q (i.2.2.2>400) (dn (.done false))<|nx (A1 (h+1)))<|dx ()) 0).bind (AF λj:PUnit=>(b x).bind λk=>some k.2))
def V5:eE:=wk std JY K0
def mC (F:eE):=sq 220 1 [a0 AB] [r0 .bool] F
abbrev mD:=(Int×Int×MD)→Option (Aa×Bool×MD)
def wm (L:Lp):mD:=λx=>
 q (x.2.1==0) (ib x.2.2.2.1 x.1 λa=>ib x.2.2.1.1 x.1 λb=>ib x.2.2.1.2.1 b.1 λc=>q (!(a.1==c)) (some ((x.1,1,(-1),0),true,x.2.2))<|q (q (1≤ln ([2,3])) (decide (ln ([2,3])≤ln ([2,3])))<|false) (L.run (λd:Int=>q (d<(Dj (CZ (ln ([2,3])) 1))) (ib (part ([2,3]) (Int.toNat 1) (CZ (ln ([2,3])) 1)) d λe=>L.run (λf:Int=>q (f<ln x.2.2.1.1) (q ((A7 ([2,3]) (Dj (G7 (Int.toNat 1) d)) e)==1) (q (f==(-1)) (ib x.2.2.2.1 x.1 λg=>ib x.2.2.1.1 x.1 λh=>ib x.2.2.1.2.1 h.1 λi=>q (!(g.1==i)) (dn (.done ((x.1,A7 ([2,3]) (Dj (G7 (Int.toNat 1) d)) e,f,x.2.1),true,x.2.2)))<|nx (A1 (f+1)))<|nx (A1 (f+1)))<|q (f<0) (nx (A1 (f+1)))<|q (f≥ln x.2.2.1.1) (nx (A1 (f+1)))<|q ((A7 ([2,3]) (Dj (G7 (Int.toNat 1) d)) e)==3) (q (x.2.1==0) (ib x.2.2.2.1 x.1 λj=>ib x.2.2.1.1 x.1 λk=>ib x.2.2.1.2.1 k.1 λl=>q (j.1==l) (ib x.2.2.1.1 f λm=>ib x.2.2.1.1 x.1 λn=>q (m.1==n.1) (ib x.2.2.1.1 f λo=>ib x.2.2.1.1 x.1 λp=>q (o.2.1<p.2.1) (ib x.2.2.2.1 f λr=>ib x.2.2.2.1 x.1 λs=>q (r.1==s.1) (ib x.2.2.2.1 f λt=>ib x.2.2.2.1 x.1 λu=>q (t.2>u.2) (dn (.done ((x.1,A7 ([2,3]) (Dj (G7 (Int.toNat 1) d)) e,f,x.2.1),true,x.2.2)))<|nx (A1 (f+1)))<|nx (A1 (f+1)))<|nx (A1 (f+1)))<|nx (A1 (f+1)))<|nx (A1 (f+1)))<|q ((A7 ([2,3]) (Dj (G7 (Int.toNat 1) d)) e)==3) (ib x.2.2.1.1 f λv=>ib x.2.2.1.1 x.1 λw=>q (v.1==w.1) (ib x.2.2.1.1 f λy=>ib x.2.2.1.1 x.1 λz=>q (y.2.1<z.2.1) (ib x.2.2.2.2 f λA=>q (A7 x.2.2.2.2 f A≥0) (ib x.2.2.2.2 f λB=>q (A7 x.2.2.2.2 f B<x.2.1) (dn (.done ((x.1,A7 ([2,3]) (Dj (G7 (Int.toNat 1) d)) e,f,x.2.1),true,x.2.2)))<|nx (A1 (f+1)))<|nx (A1 (f+1)))<|nx (A1 (f+1)))<|nx (A1 (f+1)))<|q ((A7 ([2,3]) (Dj (G7 (Int.toNat 1) d)) e)==2) (ib x.2.2.2.1 x.1 λC=>ib x.2.2.2.1 f λD=>q (C.1==D.1) (ib x.2.2.2.1 x.1 λE=>ib x.2.2.2.1 f λG=>q (E.2>G.2) (ib x.2.2.2.2 f λH=>q (A7 x.2.2.2.2 f H≥0) (ib x.2.2.2.2 f λI=>q (A7 x.2.2.2.2 f I<x.2.1) (dn (.done ((x.1,A7 ([2,3]) (Dj (G7 (Int.toNat 1) d)) e,f,x.2.1),true,x.2.2)))<|nx (A1 (f+1)))<|nx (A1 (f+1)))<|nx (A1 (f+1)))<|nx (A1 (f+1)))<|nx (A1 (f+1)))<|q ((A7 ([2,3]) (Dj (G7 (Int.toNat 1) d)) e)==3) (ib x.2.2.1.1 f λJ=>ib x.2.2.1.1 x.1 λK=>q (J.1==K.1) (ib x.2.2.1.1 f λM=>ib x.2.2.1.1 x.1 λO=>q (M.2.1<O.2.1) (ib x.2.2.2.2 f λP=>q (A7 x.2.2.2.2 f P≥0) (ib x.2.2.2.2 f λQ=>q (A7 x.2.2.2.2 f Q<x.2.1) (dn (.done ((x.1,A7 ([2,3]) (Dj (G7 (Int.toNat 1) d)) e,f,x.2.1),true,x.2.2)))<|nx (A1 (f+1)))<|nx (A1 (f+1)))<|nx (A1 (f+1)))<|nx (A1 (f+1)))<|q ((A7 ([2,3]) (Dj (G7 (Int.toNat 1) d)) e)==2) (ib x.2.2.2.1 x.1 λR=>ib x.2.2.2.1 f λU=>q (R.1==U.1) (ib x.2.2.2.1 x.1 λV=>ib x.2.2.2.1 f λW=>q (V.2>W.2) (ib x.2.2.2.2 f λX=>q (A7 x.2.2.2.2 f X≥0) (ib x.2.2.2.2 f λY=>q (A7 x.2.2.2.2 f Y<x.2.1) (dn (.done ((x.1,A7 ([2,3]) (Dj (G7 (Int.toNat 1) d)) e,f,x.2.1),true,x.2.2)))<|nx (A1 (f+1)))<|nx (A1 (f+1)))<|nx (A1 (f+1)))<|nx (A1 (f+1)))<|nx (A1 (f+1)))<|dx (A1 (d+1))) 0)<|dn ((0,0,0,0),false,x.2.2)) 0)<|none)<|L.run (λZ:Int=>q (Z<ln ([2,3])) (ib ([2,3]) Z λaa=>L.run (λab:Int=>q (ab<ln x.2.2.1.1) (q ((A7 ([2,3]) Z aa)==1) (q (ab==(-1)) (ib x.2.2.2.1 x.1 λac=>ib x.2.2.1.1 x.1 λad=>ib x.2.2.1.2.1 ad.1 λae=>q (!(ac.1==ae)) (dn (.done ((x.1,A7 ([2,3]) Z aa,ab,x.2.1),true,x.2.2)))<|nx (A1 (ab+1)))<|nx (A1 (ab+1)))<|q (ab<0) (nx (A1 (ab+1)))<|q (ab≥ln x.2.2.1.1) (nx (A1 (ab+1)))<|q ((A7 ([2,3]) Z aa)==3) (q (x.2.1==0) (ib x.2.2.2.1 x.1 λaf=>ib x.2.2.1.1 x.1 λag=>ib x.2.2.1.2.1 ag.1 λah=>q (af.1==ah) (ib x.2.2.1.1 ab λai=>ib x.2.2.1.1 x.1 λaj=>q (ai.1==aj.1) (ib x.2.2.1.1 ab λak=>ib x.2.2.1.1 x.1 λam=>q (ak.2.1<am.2.1) (ib x.2.2.2.1 ab λao=>ib x.2.2.2.1 x.1 λap=>q (ao.1==ap.1) (ib x.2.2.2.1 ab λaq=>ib x.2.2.2.1 x.1 λar=>q (aq.2>ar.2) (dn (.done ((x.1,A7 ([2,3]) Z aa,ab,x.2.1),true,x.2.2)))<|nx (A1 (ab+1)))<|nx (A1 (ab+1)))<|nx (A1 (ab+1)))<|nx (A1 (ab+1)))<|nx (A1 (ab+1)))<|q ((A7 ([2,3]) Z aa)==3) (ib x.2.2.1.1 ab λau=>ib x.2.2.1.1 x.1 λav=>q (au.1==av.1) (ib x.2.2.1.1 ab λaw=>ib x.2.2.1.1 x.1 λay=>q (aw.2.1<ay.2.1) (ib x.2.2.2.2 ab λaz=>q (A7 x.2.2.2.2 ab az≥0) (ib x.2.2.2.2 ab λa8=>q (A7 x.2.2.2.2 ab a8<x.2.1) (dn (.done ((x.1,A7 ([2,3]) Z aa,ab,x.2.1),true,x.2.2)))<|nx (A1 (ab+1)))<|nx (A1 (ab+1)))<|nx (A1 (ab+1)))<|nx (A1 (ab+1)))<|q ((A7 ([2,3]) Z aa)==2) (ib x.2.2.2.1 x.1 λa9=>ib x.2.2.2.1 ab λba=>q (a9.1==ba.1) (ib x.2.2.2.1 x.1 λbb=>ib x.2.2.2.1 ab λbc=>q (bb.2>bc.2) (ib x.2.2.2.2 ab λbd=>q (A7 x.2.2.2.2 ab bd≥0) (ib x.2.2.2.2 ab λbf=>q (A7 x.2.2.2.2 ab bf<x.2.1) (dn (.done ((x.1,A7 ([2,3]) Z aa,ab,x.2.1),true,x.2.2)))<|nx (A1 (ab+1)))<|nx (A1 (ab+1)))<|nx (A1 (ab+1)))<|nx (A1 (ab+1)))<|nx (A1 (ab+1)))<|q ((A7 ([2,3]) Z aa)==3) (ib x.2.2.1.1 ab λbg=>ib x.2.2.1.1 x.1 λbh=>q (bg.1==bh.1) (ib x.2.2.1.1 ab λbi=>ib x.2.2.1.1 x.1 λbj=>q (bi.2.1<bj.2.1) (ib x.2.2.2.2 ab λbk=>q (A7 x.2.2.2.2 ab bk≥0) (ib x.2.2.2.2 ab λbm=>q (A7 x.2.2.2.2 ab bm<x.2.1) (dn (.done ((x.1,A7 ([2,3]) Z aa,ab,x.2.1),true,x.2.2)))<|nx (A1 (ab+1)))<|nx (A1 (ab+1)))<|nx (A1 (ab+1)))<|nx (A1 (ab+1)))<|q ((A7 ([2,3]) Z aa)==2) (ib x.2.2.2.1 x.1 λbo=>ib x.2.2.2.1 ab λbp=>q (bo.1==bp.1) (ib x.2.2.2.1 x.1 λbq=>ib x.2.2.2.1 ab λbr=>q (bq.2>br.2) (ib x.2.2.2.2 ab λbs=>q (A7 x.2.2.2.2 ab bs≥0) (ib x.2.2.2.2 ab λbu=>q (A7 x.2.2.2.2 ab bu<x.2.1) (dn (.done ((x.1,A7 ([2,3]) Z aa,ab,x.2.1),true,x.2.2)))<|nx (A1 (ab+1)))<|nx (A1 (ab+1)))<|nx (A1 (ab+1)))<|nx (A1 (ab+1)))<|nx (A1 (ab+1)))<|dx (A1 (Z+1))) 0)<|dn ((0,0,0,0),false,x.2.2)) 0
def mE:mD:=wm std
def wn (F:mD):Nat×Be:=⟨222,3,[5],[(0,.ptr 0)],[a1 ti,a2 ti,zc 0 0 AB,zc 0 3 (.sl (.pair ti ti)),.cell 0 4 (.own ti 3)],[r0 Ai,r1 .bool,zc 0 0 AB,zc 0 3 (.sl (.pair ti ti)),.cell 0 4 (.own ti 3)],false,F⟩
abbrev mF:=Ac→Option Bb
def mG (L:Lp) (a:eE) (b:mD) (c:Yj):mF:=λx=>
 (a x).bind λd=>q (!d) (some ([],1))<|q (Dh (ln x.1)) ((c x).bind λe=>L.run (λf:AC=>q (f.1<ln (List.replicate (Int.toNat (ln x.1)) (0:Int))) (ib f.2 f.1 λg=>nx (A1 (f.1+1),List.set f.2 (Int.toNat f.1) (-1)))<|(L.run (λh:(List Aa)×Int×(List (List Int))×(List Int)×(List Aa)×(List (Int×Int))×List Int=>L.run (λi:(List Aa)×Int×(List Int)×(List (Int×Int))×Ac=>q (i.2.1<ln x.1) (ib i.2.2.1 i.2.1 λj=>q (A7 i.2.2.1 i.2.1 j≥0) (nx (i.1,A1 (i.2.1+1),i.2.2))<|(b (i.2.1,h.2.1,i.2.2.2.2,i.2.2.2.1,i.2.2.1)).bind λk=>q k.2.1 (q (room i.1 ([k.1])) (nx (i.1++([k.1]),A1 (i.2.1+1),k.2.2.2.2,k.2.2.2.1,k.2.2.1))<|none)<|nx (i.1,A1 (i.2.1+1),k.2.2.2.2,k.2.2.2.1,k.2.2.1))<|(q (q (0≤ln h.1) (q (ln h.1≤ln i.1) (decide (ln i.1≤ln i.1))<|false)<|false) (L.run (λl:AC=>q (l.1<(Dj (CZ (ln i.1) (ln h.1)))) (ib (part i.1 (Int.toNat (ln h.1)) (CZ (ln i.1) (ln h.1))) l.1 λm=>ib l.2 ((A7 i.1 (Dj (G7 (Int.toNat (ln h.1)) l.1)) m).1) λn=>nx (A1 (l.1+1),List.set l.2 (Int.toNat ((A7 i.1 (Dj (G7 (Int.toNat (ln h.1)) l.1)) m).1)) h.2.1))<|dx l.2) (0,i.2.2.1))<|none).bind (AF λo:List Int=>q (h.2.1>0) (q ((ln i.1)==(ln h.1)) ((L.s2 i.1).bind λp=>dn (.done (p,0)))<|dx (i.1,A1 (h.2.1+1),i.2.2.2.2.2.2,i.2.2.2.2.2.1,i.2.2.2.2.1,i.2.2.2.1,o))<|dx (i.1,A1 (h.2.1+1),i.2.2.2.2.2.2,i.2.2.2.2.2.1,i.2.2.2.2.1,i.2.2.2.1,o))) (h.1,0,h.2.2.2.2.2.2,h.2.2.2.2.2.1,h.2.2.2.2.1,h.2.2.2.1,h.2.2.1)) ([],0,x.2.2,x.2.1,x.1,e.1,f.2)).bind λr=>dn r) (0,List.replicate (Int.toNat (ln x.1)) 0))<|none
def Oq:mF:=mG std V5 mE K0
def wo (F:mF):=sp 160 1 [a0 AB] [r0 (.sl Ai),r1 ti] F
abbrev mH:=(Ac×List Aa)→Option Bool
def wq (L:Lp) (a:Yj):mH:=λx=>
 q (Dh (ln x.1.1)) ((a x.1).bind λb=>L.run (λc:AC=>q (c.1<ln (List.replicate (Int.toNat (ln x.1.1)) (0:Int))) (ib c.2 c.1 λd=>nx (A1 (c.1+1),List.set c.2 (Int.toNat c.1) (-1)))<|((L.run (λe:AC=>q (e.1<ln x.2) (ib x.2 e.1 λf=>q (f.1<0) (dn (.done false))<|q (f.1≥ln x.1.1) (dn (.done false))<|ib e.2 f.1 λg=>q (A7 e.2 f.1 g≥0) (dn (.done false))<|q (f.2.2.2<0) (dn (.done false))<|ib e.2 f.1 λh=>nx (A1 (e.1+1),List.set e.2 (Int.toNat f.1) f.2.2.2))<|dx e.2) (0,c.2)).bind (AF λi:List Int=>(L.run (λj:Int=>q (j<ln x.2) (ib x.2 j λk=>q (k.2.1==1) (q (k.2.2.1==(-1)) (ib b.1 k.1 λl=>ib x.1.1 k.1 λm=>ib x.1.2.1 m.1 λn=>q (!(!(((A7 b.1 k.1 l).1)==n))) (dn (.done false))<|nx (A1 (j+1)))<|dn (.done false))<|q (k.2.2.1<0) (dn (.done false))<|q (k.2.2.1≥ln x.1.1) (dn (.done false))<|q (k.2.1==3) (q (k.2.2.2==0) (ib b.1 k.1 λo=>ib x.1.1 k.1 λp=>ib x.1.2.1 p.1 λr=>q (((A7 b.1 k.1 o).1)==r) (ib x.1.1 k.2.2.1 λs=>ib x.1.1 k.1 λt=>q (s.1==t.1) (ib x.1.1 k.2.2.1 λu=>ib x.1.1 k.1 λv=>q (u.2.1<v.2.1) (ib b.1 k.2.2.1 λw=>ib b.1 k.1 λy=>q (((A7 b.1 k.2.2.1 w).1)==((A7 b.1 k.1 y).1)) (ib b.1 k.2.2.1 λz=>ib b.1 k.1 λA=>q (!((A7 b.1 k.2.2.1 z).2>(A7 b.1 k.1 A).2)) (dn (.done false))<|nx (A1 (j+1)))<|dn (.done false))<|dn (.done false))<|dn (.done false))<|dn (.done false))<|q (k.2.1==3) (ib x.1.1 k.2.2.1 λB=>ib x.1.1 k.1 λC=>q (B.1==C.1) (ib x.1.1 k.2.2.1 λD=>ib x.1.1 k.1 λE=>q (D.2.1<E.2.1) (ib i k.2.2.1 λG=>q (A7 i k.2.2.1 G≥0) (ib i k.2.2.1 λH=>q (!(A7 i k.2.2.1 H<k.2.2.2)) (dn (.done false))<|nx (A1 (j+1)))<|dn (.done false))<|dn (.done false))<|dn (.done false))<|q (k.2.1==2) (ib b.1 k.1 λI=>ib b.1 k.2.2.1 λJ=>q (((A7 b.1 k.1 I).1)==((A7 b.1 k.2.2.1 J).1)) (ib b.1 k.1 λK=>ib b.1 k.2.2.1 λM=>q ((A7 b.1 k.1 K).2>(A7 b.1 k.2.2.1 M).2) (ib i k.2.2.1 λO=>q (A7 i k.2.2.1 O≥0) (ib i k.2.2.1 λP=>q (!(A7 i k.2.2.1 P<k.2.2.2)) (dn (.done false))<|nx (A1 (j+1)))<|dn (.done false))<|dn (.done false))<|dn (.done false))<|dn (.done false))<|q (k.2.1==3) (ib x.1.1 k.2.2.1 λQ=>ib x.1.1 k.1 λR=>q (Q.1==R.1) (ib x.1.1 k.2.2.1 λU=>ib x.1.1 k.1 λV=>q (U.2.1<V.2.1) (ib i k.2.2.1 λW=>q (A7 i k.2.2.1 W≥0) (ib i k.2.2.1 λX=>q (!(A7 i k.2.2.1 X<k.2.2.2)) (dn (.done false))<|nx (A1 (j+1)))<|dn (.done false))<|dn (.done false))<|dn (.done false))<|q (k.2.1==2) (ib b.1 k.1 λY=>ib b.1 k.2.2.1 λZ=>q (((A7 b.1 k.1 Y).1)==((A7 b.1 k.2.2.1 Z).1)) (ib b.1 k.1 λaa=>ib b.1 k.2.2.1 λab=>q ((A7 b.1 k.1 aa).2>(A7 b.1 k.2.2.1 ab).2) (ib i k.2.2.1 λac=>q (A7 i k.2.2.1 ac≥0) (ib i k.2.2.1 λad=>q (!(A7 i k.2.2.1 ad<k.2.2.2)) (dn (.done false))<|nx (A1 (j+1)))<|dn (.done false))<|dn (.done false))<|dn (.done false))<|dn (.done false))<|dx ()) 0).bind (AF λae:PUnit=>L.run (λaf:Int=>q (af<ln i) (ib i af λag=>q (A7 i af ag≥0) (nx (A1 (af+1)))<|L.run (λah:Int=>q (ah<ln x.1.1) (ib b.1 af λai=>ib x.1.1 af λaj=>ib x.1.2.1 aj.1 λak=>q (((A7 b.1 af ai).1)==ak) (ib x.1.1 ah λam=>ib x.1.1 af λao=>q (am.1==ao.1) (ib x.1.1 ah λap=>ib x.1.1 af λaq=>q (ap.2.1<aq.2.1) (ib b.1 ah λar=>ib b.1 af λau=>q (((A7 b.1 ah ar).1)==((A7 b.1 af au).1)) (ib b.1 ah λav=>ib b.1 af λaw=>ib b.1 af λay=>ib x.1.1 af λaz=>ib x.1.2.1 az.1 λa8=>q (!(((A7 b.1 af ay).1)==a8)) (dn (.done false))<|q ((A7 b.1 ah av).2>(A7 b.1 af aw).2) (dn (.done false))<|ib i ah λa9=>q (A7 i ah a9≥0) (ib x.1.1 ah λba=>ib x.1.1 af λbb=>q (ba.1==bb.1) (ib x.1.1 ah λbc=>ib x.1.1 af λbd=>q (bc.2.1<bd.2.1) (dn (.done false))<|ib b.1 af λbf=>ib b.1 ah λbg=>q (((A7 b.1 af bf).1)==((A7 b.1 ah bg).1)) (ib b.1 af λbh=>ib b.1 ah λbi=>q ((A7 b.1 af bh).2>(A7 b.1 ah bi).2) (dn (.done false))<|nx (A1 (ah+1)))<|nx (A1 (ah+1)))<|ib b.1 af λbj=>ib b.1 ah λbk=>q (((A7 b.1 af bj).1)==((A7 b.1 ah bk).1)) (ib b.1 af λbm=>ib b.1 ah λbo=>q ((A7 b.1 af bm).2>(A7 b.1 ah bo).2) (dn (.done false))<|nx (A1 (ah+1)))<|nx (A1 (ah+1)))<|nx (A1 (ah+1)))<|ib b.1 af λbp=>ib x.1.1 af λbq=>ib x.1.2.1 bq.1 λbr=>q (!(((A7 b.1 af bp).1)==br)) (dn (.done false))<|ib i ah λbs=>q (A7 i ah bs≥0) (ib x.1.1 ah λbu=>ib x.1.1 af λbv=>q (bu.1==bv.1) (ib x.1.1 ah λbw=>ib x.1.1 af λbz=>q (bw.2.1<bz.2.1) (dn (.done false))<|ib b.1 af λb0=>ib b.1 ah λb1=>q (((A7 b.1 af b0).1)==((A7 b.1 ah b1).1)) (ib b.1 af λb2=>ib b.1 ah λb3=>q ((A7 b.1 af b2).2>(A7 b.1 ah b3).2) (dn (.done false))<|nx (A1 (ah+1)))<|nx (A1 (ah+1)))<|ib b.1 af λb4=>ib b.1 ah λb5=>q (((A7 b.1 af b4).1)==((A7 b.1 ah b5).1)) (ib b.1 af λb6=>ib b.1 ah λb7=>q ((A7 b.1 af b6).2>(A7 b.1 ah b7).2) (dn (.done false))<|nx (A1 (ah+1)))<|nx (A1 (ah+1)))<|nx (A1 (ah+1)))<|ib b.1 af λb8=>ib x.1.1 af λb9=>ib x.1.2.1 b9.1 λca=>q (!(((A7 b.1 af b8).1)==ca)) (dn (.done false))<|ib i ah λcb=>q (A7 i ah cb≥0) (ib x.1.1 ah λcc=>ib x.1.1 af λce=>q (cc.1==ce.1) (ib x.1.1 ah λcf=>ib x.1.1 af λcg=>q (cf.2.1<cg.2.1) (dn (.done false))<|ib b.1 af λch=>ib b.1 ah λci=>q (((A7 b.1 af ch).1)==((A7 b.1 ah ci).1)) (ib b.1 af λcj=>ib b.1 ah λck=>q ((A7 b.1 af cj).2>(A7 b.1 ah ck).2) (dn (.done false))<|nx (A1 (ah+1)))<|nx (A1 (ah+1)))<|ib b.1 af λcm=>ib b.1 ah λco=>q (((A7 b.1 af cm).1)==((A7 b.1 ah co).1)) (ib b.1 af λcp=>ib b.1 ah λcq=>q ((A7 b.1 af cp).2>(A7 b.1 ah cq).2) (dn (.done false))<|nx (A1 (ah+1)))<|nx (A1 (ah+1)))<|nx (A1 (ah+1)))<|ib b.1 af λcr=>ib x.1.1 af λcs=>ib x.1.2.1 cs.1 λcu=>q (!(((A7 b.1 af cr).1)==cu)) (dn (.done false))<|ib i ah λcv=>q (A7 i ah cv≥0) (ib x.1.1 ah λcw=>ib x.1.1 af λcy=>q (cw.1==cy.1) (ib x.1.1 ah λcz=>ib x.1.1 af λc0=>q (cz.2.1<c0.2.1) (dn (.done false))<|ib b.1 af λc1=>ib b.1 ah λc2=>q (((A7 b.1 af c1).1)==((A7 b.1 ah c2).1)) (ib b.1 af λc3=>ib b.1 ah λc4=>q ((A7 b.1 af c3).2>(A7 b.1 ah c4).2) (dn (.done false))<|nx (A1 (ah+1)))<|nx (A1 (ah+1)))<|ib b.1 af λc5=>ib b.1 ah λc6=>q (((A7 b.1 af c5).1)==((A7 b.1 ah c6).1)) (ib b.1 af λc7=>ib b.1 ah λc8=>q ((A7 b.1 af c7).2>(A7 b.1 ah c8).2) (dn (.done false))<|nx (A1 (ah+1)))<|nx (A1 (ah+1)))<|nx (A1 (ah+1)))<|ib b.1 af λc9=>ib x.1.1 af λda=>ib x.1.2.1 da.1 λdb=>q (!(((A7 b.1 af c9).1)==db)) (dn (.done false))<|ib i ah λdc=>q (A7 i ah dc≥0) (ib x.1.1 ah λdd=>ib x.1.1 af λde=>q (dd.1==de.1) (ib x.1.1 ah λdf=>ib x.1.1 af λdg=>q (df.2.1<dg.2.1) (dn (.done false))<|ib b.1 af λdh=>ib b.1 ah λdi=>q (((A7 b.1 af dh).1)==((A7 b.1 ah di).1)) (ib b.1 af λdj=>ib b.1 ah λdk=>q ((A7 b.1 af dj).2>(A7 b.1 ah dk).2) (dn (.done false))<|nx (A1 (ah+1)))<|nx (A1 (ah+1)))<|ib b.1 af λdm=>ib b.1 ah λdp=>q (((A7 b.1 af dm).1)==((A7 b.1 ah dp).1)) (ib b.1 af λdq=>ib b.1 ah λdr=>q ((A7 b.1 af dq).2>(A7 b.1 ah dr).2) (dn (.done false))<|nx (A1 (ah+1)))<|nx (A1 (ah+1)))<|nx (A1 (ah+1)))<|dx (A1 (af+1))) 0)<|dn true) 0))).bind λds=>dn ds) (0,List.replicate (Int.toNat (ln x.1.1)) 0))<|none
def mI:mH:=wq std K0
def wu (F:mH):=sq 268 2 [a0 AB,a1 (.sl Ai)] [r0 .bool] F
abbrev mJ:=(Ac×List Aa)→Option (Bool×Int)
def mK (L:Lp) (a:eE) (b:mH):mJ:=λx=>
 (a x.1).bind λc=>q (!c) (some (false,1))<|(b x).bind λd=>some (d,0)
def Yk:mJ:=mK std V5 mI
def wv (F:mJ):=sq 226 2 [a0 AB,a1 (.sl Ai)] [r0 .bool,r1 ti] F
abbrev mL:=List (List Int)→Option (List Int)
def wx (L:Lp):mL:=λx=>
 (L.run (λa:Int×Int=>q (a.2<ln x) (ib x a.2 λb=>q (A1 (a.1+(ln b))<0) none<|nx (A1 (a.1+(ln b)),A1 (a.2+1)))<|dx a.1) (0,0)).bind (AF λc:Int=>q (c<0) none<|q (A1 (c-(A1 (0-0)))>0) (q (q (0<A1 (c-(A1 (0-0)))) (decide (A1 (c-(A1 (0-0)))≤4294967296))<|false) ((sub (List.replicate (Int.toNat (A1 (c-(A1 (0-0))))) 0) 0 0).bind λd=>L.run (λe:(List Int)×Int=>q (e.2<ln x) (ib x e.2 λf=>q (room e.1 f) (nx (e.1++f,A1 (e.2+1)))<|none)<|dn e.1) (d,0))<|none)<|L.run (λg:(List Int)×Int=>q (g.2<ln x) (ib x g.2 λh=>q (room g.1 h) (nx (g.1++h,A1 (g.2+1)))<|none)<|dn g.1) ([],0))
def mM:mL:=wx std
def wy (F:mL):=sp 227 1 [a0 (.sl li)] [r0 li] F
abbrev wz:=(Ac×(List Aa)×Bool)→Option (List (List Int))
def mN:wz:=λx=>if x.1.2.2.length≤1000000∧(∀ r∈x.1.2.2,r.length≤1000000)∧x.2.1.length≤1000000 then some (x.1.2.2.map (Kh x.2.1 x.2.2)) else none
def M06 (F:wz):Be:=⟨3,[],[],[a0 AB,a1 (.sl Ai),a2 .bool],[r0 (.sl li)],false,F⟩
abbrev eF:=(Ac×Bb)→Option (Bb×(List Int)×Int)
def mO (L:Lp) (a:mJ) (b:mL) (c:wz) (d:Qw):eF:=λx=>
 (a (x.1,x.2.1)).bind λe=>q (e.2 != 0) (some (([],0),[],e.2))<|q (x.2.2<0) (some (([],0),[],2))<|q (x.2.2>12) (some (([],0),[],2))<|q (!e.1) (some (([],0),[],17))<|(c (x.1,x.2.1,false)).bind λf=>(b f).bind λg=>(L.run (λh:Int×List Aa=>q (h.1<ln g) (ib g h.1 λi=>ib x.1.1 i λj=>q (room h.2 ([j])) (nx (A1 (h.1+1),h.2++([j])))<|none)<|dx h.2) (0,[])).bind (AF λk:List Aa=>(d (k,x.2.2)).bind λl=>q (l != 0) (some (([],0),[],l))<|some ((k,x.2.2),g,0))
def OT:eF:=mO std Yk mM mN Jt
def mP (F:eF):=sp 161 3 [a0 AB,a1 (.sl Ai),a2 ti] [r0 Cx,r1 li,r2 ti] F
abbrev ID:=(Bb×AC×A2×AH×Ah×Ag×List Int)→Option (Int×A2×AH×Ah×Ag×List Int)
def Ot (L:Lp) (a:JX):ID:=λx=>
 q (x.2.1.1>ln x.2.2.2.2.1.2.2.2.2.2.1) (some (14,x.2.2))<|(L.run (λb:Int=>q (b<x.2.1.1) ((L.run (λc:Int×Int=>q (c.2<ln x.1.1) (ib x.1.1 c.2 λd=>ib x.2.1.2 c.2 λe=>q (!(b<0)) (q ((CF .i64 (DV .i64 e b) 1)==1) (nx (A1 (c.1+d.2.2.2),A1 (c.2+1)))<|nx (c.1,A1 (c.2+1)))<|none)<|dx c.1) (0,0)).bind (AF λf:Int=>ib x.2.2.2.2.1.2.2.2.2.2.1 b λg=>ib x.2.2.1.1 g λh=>q (f>h.2) (dn (.done (14,x.2.2)))<|nx (A1 (b+1))))<|dx ()) 0).bind (AF λi:PUnit=>L.run (λj:Int=>q (j<ln x.2.2.2.1.2.2.1) (ib x.2.2.2.1.2.2.1 j λk=>(L.run (λl:Int×Int=>q (l.2<ln x.1.1) (ib x.1.1 l.2 λm=>q (m.1==j) (nx (A1 (l.1+m.2.2.2),A1 (l.2+1)))<|nx (l.1,A1 (l.2+1)))<|dx l.1) (0,0)).bind (AF λn:Int=>(ib x.2.2.2.1.2.1 k.2.1 λo=>L.run (λp:Int×Int=>q (p.2<ln o) (ib o p.2 λr=>(a (x.2.2.2.2.2.2,r)).bind λs=>q (!s) (ib x.2.2.2.1.1 r λt=>nx (A1 (p.1+t.2.1),A1 (p.2+1)))<|nx (p.1,A1 (p.2+1)))<|dx p.1) (n,0)).bind (AF λu:Int=>ib x.2.2.1.1 k.2.1 λv=>q (u>v.2) (dn (14,x.2.2))<|nx (A1 (j+1)))))<|dn (0,x.2.2)) 0)
def IE:ID:=Ot std JY
def Ou (F:ID):Nat×Be:=⟨216,4,[49,1],[(0,.ptr 0),(3,.fn 230 [] [.ptr 1])],[a1 Cx,a2 ME,zc 0 0 A5,zc 0 5 AO,zc 0 19 An,zc 0 31 AP,zc 1 0 li],[r0 ti,zc 0 0 A5,zc 0 5 AO,zc 0 19 An,zc 0 31 AP,zc 1 0 li],false,F⟩
abbrev IF:=((List Int)×Bb×A2×AH×Ah×Ag×List Int)→Option (Int×A2×AH×Ah×Ag×List Int)
def Ov (L:Lp) (a:eB) (b:ID) (c:kV) (d:yz):IF:=λx=>
 (a x.2.1).bind λe=>q (e.2 != 0) (some (e.2,x.2.2))<|(b (x.2.1,e.1.1,x.2.2)).bind λf=>q (f.1 != 0) (some f)<|(sub f.2.2.2.1.2.2.2.2.2.1 0 e.1.1.1).bind λg=>(c g).bind λh=>(d e.1).bind λi=>some (0,f.2.1,(f.2.2.1.1,f.2.2.1.2.1,f.2.2.1.2.2.1,true,(x.1,x.2.1,e.1,f.2.2.2.1.2.1,h,0),false),f.2.2.2.1,(f.2.2.2.2.1.1,f.2.2.2.2.1.2.1,i,f.2.2.2.2.1.2.2.2),f.2.2.2.2.2)
def IG:IF:=Ov std JZ IE W5 wa
def Ow (F:IF):Nat×Be:=⟨153,4,[49,1],[(0,.ptr 0),(3,.fn 230 [] [.ptr 1])],[a1 li,a2 Cx,zc 0 0 A5,zc 0 5 AO,zc 0 19 An,zc 0 31 AP,zc 1 0 li],[r0 ti,zc 0 0 A5,zc 0 5 AO,zc 0 19 An,zc 0 31 AP,zc 1 0 li],false,F⟩
abbrev mQ:=((List Int)×Bb×AR)→Option (Int×AR)
def wA (L:Lp) (a:Sy) (b:IF) (c:JX) (d:dI):mQ:=λx=>
 (q (room [x.2.2.2.2.1.2.1] x.2.2.2.2.1.2.2.2.2.2.1) (L.run (λe:Int=>q (e<ln ([x.2.2.2.2.1.2.1]++x.2.2.2.2.1.2.2.2.2.2.1)) (ib ([x.2.2.2.2.1.2.1]++x.2.2.2.2.1.2.2.2.2.2.1) e λf=>ib x.2.2.2.1.2.1 (A7 ([x.2.2.2.2.1.2.1]++x.2.2.2.2.1.2.2.2.2.2.1) e f) λg=>L.run (λh:Int=>q (h<ln g) (ib g h λi=>(c (x.1,i)).bind λj=>q (!j) (dn (.done (.done (17,x.2.2))))<|nx (A1 (h+1)))<|dx (A1 (e+1))) 0)<|dx ()) 0)<|none).bind (AF λk:PUnit=>ib x.2.2.1.1 x.2.2.2.2.1.2.1 λl=>L.run (λm:Int×Int=>q (m.2<ln x.1) (ib x.1 m.2 λn=>ib x.2.2.2.1.1 n λo=>nx (A1 (m.1+o.2.1),A1 (m.2+1)))<|(q (m.1>l.2) (some (14,x.2.2))<|(b (x.1,x.2.1,x.2.2.1,x.2.2.2.1,x.2.2.2.2.1,x.2.2.2.2.2,x.1)).bind λp=>q (p.1 != 0) (some (p.1,p.2.1,p.2.2.1,p.2.2.2.1,p.2.2.2.2.1))<|(L.run (λr:(List Ap)×Int=>q (r.2<ln p.2.2.2.2.2) (ib p.2.2.2.2.2 r.2 λs=>(d (p.2.2.1.2.1,s)).bind λt=>q (room r.1 ([(s,t.1,p.2.2.2.1.2.1,false)])) (nx (r.1++([(s,t.1,p.2.2.2.1.2.1,false)]),A1 (r.2+1)))<|none)<|dx r.1) ([],0)).bind (AF λu:List Ap=>(a (u,p.2.1,p.2.2.1,p.2.2.2.1,p.2.2.2.2.1)).bind λv=>some v)).bind λw=>dn w) (0,0))
def mR:mQ:=wA std Qv IG JY kX
def wB (F:mQ):Nat×Be:=⟨162,3,[49],[(0,.ptr 0)],[a1 li,a2 Cx]++cW,[r0 ti]++cW,false,F⟩
abbrev T98:=AR→Option (Int×AR)
def B98 (L:Lp) (a:dY) (b:e8) (c:mA) (d:mF) (e:eF) (f:mQ):T98:=λx=>
 q (!x.2.1.2.2.2.2.2) (some (16,x))<|(a x).bind λg=>q (g.1 != 0) (some g)<|(b g.2).bind λh=>q (h.1 != 0) (some h)<|(c h.2.2.1).bind λi=>q (i.2.2 != 0) (some (i.2.2,h.2))<|(d i.1).bind λj=>q (j.2 != 0) (some (j.2,h.2))<|q ((ln j.1)==0) (some (0,h.2.1,(h.2.2.1.1,h.2.2.1.2.1,h.2.2.1.2.2.1,false,([],([],0),((0,[]),[]),0,[],0),false),h.2.2.2))<|(e (i.1,j.1,h.2.2.2.1.2.2.2.2.1)).bind λk=>q (k.2.2 != 0) (some (k.2.2,h.2))<|(L.run (λl:Int×List Aa=>q (l.1<ln j.1) (ib j.1 l.1 λm=>ib i.2.1 m.1 λn=>q (m.2.2.1≥0) (ib i.2.1 m.2.2.1 λo=>q (room l.2 ([(n,m.2.1,o,m.2.2.2)])) (nx (A1 (l.1+1),l.2++([(n,m.2.1,o,m.2.2.2)])))<|none)<|q (room l.2 ([(n,m.2)])) (nx (A1 (l.1+1),l.2++([(n,m.2)])))<|none)<|dx l.2) (0,h.2.2.2.2.2.2.2.1)).bind (AF λp:List Aa=>(L.run (λr:(List Int)×Int=>q (r.2<ln k.2.1) (ib k.2.1 r.2 λs=>ib i.2.1 s λt=>q (room r.1 [t]) (nx (r.1++[t],A1 (r.2+1)))<|none)<|dx r.1) ([],0)).bind (AF λu:List Int=>(f (u,k.1,h.2.1,h.2.2.1,h.2.2.2.1,h.2.2.2.2.1,h.2.2.2.2.2.1,h.2.2.2.2.2.2.1,p,h.2.2.2.2.2.2.2.2)).bind λv=>some v))
def F98:T98:=B98 std dZ e9 mB Oq OT mR
def S98 (F:T98):Nat×Be:=⟨98,1,[49],[(0,.ptr 0)],[zc 0 0 A5,zc 0 5 AO,zc 0 19 An,zc 0 31 ti,zc 0 32 (.sl Aj),zc 0 33 AK,.cell 0 36 (.own Ai 170),zc 0 37 AU,zc 0 47 ti,zc 0 48 ti],[r0 ti,zc 0 0 A5,zc 0 5 AO,zc 0 19 An,zc 0 31 ti,zc 0 32 (.sl Aj),zc 0 33 AK,zc 0 36 (.sl Ai),zc 0 37 AU,zc 0 47 ti,zc 0 48 ti],false,F⟩
abbrev eG:=((List (List Int))×Int×Int×Int)→Option ((List Ap)×Int)
def wC (L:Lp):eG:=λx=>
 q (x.2.1<0) (some ([],2))<|q (x.2.1≥ln x.1) (some ([],2))<|q (x.2.2.1<0) (some ([],2))<|q (x.2.2.1≥ln x.1) (some ([],2))<|q (x.2.1==x.2.2.1) (some ([],2))<|ib x.1 x.2.1 λa=>q (x.2.2.2<0) (some ([],13))<|q (x.2.2.2>ln a) (some ([],13))<|(sub a (A1 ((ln a)-x.2.2.2)) (ln a)).bind λb=>L.run (λc:(List Ap)×Int=>q (c.2<ln b) (ib b c.2 λd=>q (room c.1 ([(d,x.2.1,x.2.2.1,false)])) (nx (c.1++([(d,x.2.1,x.2.2.1,false)]),A1 (c.2+1)))<|none)<|dn (c.1,0)) ([],0)
def V6:eG:=wC std
def mS (F:eG):=sp 163 4 [a0 (.sl li),a1 ti,a2 ti,a3 ti] [o0 Aj 177,r1 ti] F
abbrev T99:=AR→Option (Int×AR)
def B99 (L:Lp) (a:Sy) (b:eG) (c:Ez):T99:=λx=>
 q x.2.1.2.2.2.1 (some (25,x))<|q (x.2.2.1.2.1≥0) (q (!(x.2.2.1.2.1<ln x.1.1)) (some (2,x))<|q (x.2.2.1.2.2.1≥0) (q (!(x.2.2.1.2.2.1<ln x.1.1)) (some (2,x))<|q (x.2.2.1.2.1==x.2.2.1.2.2.1) (some (17,x))<|(c (x.2.1.2.2.1,x.2.2.1.2.1)).bind λd=>q d.1 (some (17,x))<|(c (x.2.1.2.2.1,x.2.2.1.2.2.1)).bind λe=>q e.1 (some (17,x))<|q (x.2.2.1.2.2.2.1<1) (some (13,x))<|(b (x.2.1.2.1,x.2.2.1.2.1,x.2.2.1.2.2.1,x.2.2.1.2.2.2.1)).bind λf=>q (f.2 != 0) (some (f.2,x))<|(a (f.1,x)).bind λg=>some g)<|some (2,x))<|some (2,x)
def F99:T99:=B99 std Qv V6 EA
def S99 (F:T99):Nat×Be:=⟨99,1,[49],[(0,.ptr 0)],cW,[r0 ti]++cW,false,F⟩
abbrev T49:=(A2×(List A6)×(List (List Int))×(List A0)×Bool×Ab×Bool×Ah×Ag)→Option (Int×A2×(List A6)×(List (List Int))×(List A0)×Bool×Ab×Bool×Ah×Ag)
def B49 (L:Lp) (a:lP) (b:T94) (c:T95) (d:T96) (e:T97) (f:T98) (g:T99):T49:=λx=>
 q (x.2.2.2.2.2.2.2.1.1==1) ((b x).bind λh=>some h)<|q (x.2.2.2.2.2.2.2.1.1==2) ((c x).bind λi=>some i)<|q (x.2.2.2.2.2.2.2.1.1==3) ((d (x.1,(x.2.1,x.2.2.1,x.2.2.2.1,x.2.2.2.2.1,x.2.2.2.2.2.1,x.2.2.2.2.2.2.1),x.2.2.2.2.2.2.2)).bind λj=>some (j.1,j.2.1,j.2.2.1.1,j.2.2.1.2.1,j.2.2.1.2.2.1,j.2.2.1.2.2.2.1,j.2.2.1.2.2.2.2.1,j.2.2.1.2.2.2.2.2,j.2.2.2))<|q (x.2.2.2.2.2.2.2.1.1==4) ((e (x.1,(x.2.1,x.2.2.1,x.2.2.2.1,x.2.2.2.2.1,x.2.2.2.2.2.1,x.2.2.2.2.2.2.1),x.2.2.2.2.2.2.2)).bind λk=>some (k.1,k.2.1,k.2.2.1.1,k.2.2.1.2.1,k.2.2.1.2.2.1,k.2.2.1.2.2.2.1,k.2.2.1.2.2.2.2.1,k.2.2.1.2.2.2.2.2,k.2.2.2))<|q (x.2.2.2.2.2.2.2.1.1==5) ((f (x.1,(x.2.1,x.2.2.1,x.2.2.2.1,x.2.2.2.2.1,x.2.2.2.2.2.1,x.2.2.2.2.2.2.1),x.2.2.2.2.2.2.2)).bind λl=>some (l.1,l.2.1,l.2.2.1.1,l.2.2.1.2.1,l.2.2.1.2.2.1,l.2.2.1.2.2.2.1,l.2.2.1.2.2.2.2.1,l.2.2.1.2.2.2.2.2,l.2.2.2))<|q (x.2.2.2.2.2.2.2.1.1==6) ((g (x.1,(x.2.1,x.2.2.1,x.2.2.2.1,x.2.2.2.2.1,x.2.2.2.2.2.1,x.2.2.2.2.2.2.1),x.2.2.2.2.2.2.2)).bind λm=>some (m.1,m.2.1,m.2.2.1.1,m.2.2.1.2.1,m.2.2.1.2.2.1,m.2.2.1.2.2.2.1,m.2.2.1.2.2.2.2.1,m.2.2.1.2.2.2.2.2,m.2.2.2))<|q (x.2.2.2.2.2.2.2.1.1==7) ((a x).bind λn=>some n)<|some (1,x)
def F49:T49:=B49 std lQ F94 F95 F96 F97 F98 F99
def S49 (F:T49):Nat×Be:=⟨49,1,[49],[(0,.ptr 0)],[zc 0 0 A5,.cell 0 5 (.own A9 60),zc 0 6 (.sl li),.cell 0 7 (.own A3 80),zc 0 8 .bool,zc 0 9 Ae,zc 0 18 .bool,zc 0 19 An,zc 0 31 ti,zc 0 32 (.sl Aj),zc 0 33 AK,.cell 0 36 (.own Ai 170),zc 0 37 AU,zc 0 47 ti,zc 0 48 ti],[r0 ti,zc 0 0 A5,zc 0 5 (.sl A9),zc 0 6 (.sl li),zc 0 7 (.sl A3),zc 0 8 .bool,zc 0 9 Ae,zc 0 18 .bool,zc 0 19 An,zc 0 31 ti,zc 0 32 (.sl Aj),zc 0 33 AK,zc 0 36 (.sl Ai),zc 0 37 AU,zc 0 47 ti,zc 0 48 ti],false,F⟩
abbrev T92:=List Aa→Option (List Aa)
def yA:T92:=λx=>bif Nat.ble x.length 4294967296 then some x else none
def S92 (F:T92):Be:=⟨1,[],[],[a0 (.sl Ai)],[o0 Ai 157],false,F⟩
abbrev T23:=(A2×AH×Ah)→Option (AH×Ag)
def B23 (L:Lp) (a:kV) (b:zV) (c:T49) (d:T91) (e:T92) (f:yz):T23:=λx=>
 (b x.2.1.1).bind λg=>L.run (λh:Int×List (List Int)=>q (h.1<ln x.2.1.2.1) (ib x.2.1.2.1 h.1 λi=>(a i).bind λj=>q (room h.2 [j]) (nx (A1 (h.1+1),h.2++[j]))<|none)<|L.run (λk:Int×List A0=>q (k.1<ln x.2.1.2.2.1) (ib x.2.1.2.2.1 k.1 λl=>(d l).bind λm=>q (room k.2 ([m])) (nx (A1 (k.1+1),k.2++([m])))<|none)<|(a x.2.1.2.2.2.2.1.1).bind λn=>(a x.2.1.2.2.2.2.1.2.2.2.2.1).bind λo=>(e x.2.1.2.2.2.2.1.2.1.1).bind λp=>(f x.2.1.2.2.2.2.1.2.2.1).bind λr=>((c (x.1,g,h.2,k.2,x.2.1.2.2.2.1,(n,(p,x.2.1.2.2.2.2.1.2.1.2),r,x.2.1.2.2.2.2.1.2.2.2.1,o,x.2.1.2.2.2.2.1.2.2.2.2.2),x.2.1.2.2.2.2.2,x.2.2,0,[],((0,[]),[]),[],([],[],(0,0,0,0,0,0,0),[]),0,0)).bind λs=>q (s.1 != 0) ((b x.2.1.1).bind λt=>L.run (λu:Int×List (List Int)=>q (u.1<ln x.2.1.2.1) (ib x.2.1.2.1 u.1 λv=>(a v).bind λw=>q (room u.2 [w]) (nx (A1 (u.1+1),u.2++[w]))<|none)<|L.run (λy:Int×List A0=>q (y.1<ln x.2.1.2.2.1) (ib x.2.1.2.2.1 y.1 λz=>(d z).bind λA=>q (room y.2 ([A])) (nx (A1 (y.1+1),y.2++([A])))<|none)<|(a x.2.1.2.2.2.2.1.1).bind λB=>(a x.2.1.2.2.2.2.1.2.2.2.2.1).bind λC=>(e x.2.1.2.2.2.2.1.2.1.1).bind λD=>(f x.2.1.2.2.2.2.1.2.2.1).bind λE=>dn (.done ((t,u.2,y.2,x.2.1.2.2.2.1,(B,(D,x.2.1.2.2.2.2.1.2.1.2),E,x.2.1.2.2.2.2.1.2.2.2.1,C,x.2.1.2.2.2.2.1.2.2.2.2.2),x.2.1.2.2.2.2.2),s.1,[],((0,[]),[]),[],([],[],(0,0,0,0,0,0,0),[]),s.2.2.2.2.2.2.2.2.2.2.2.2.2.2))) (0,[])) (0,[]))<|some ((s.2.2.1,s.2.2.2.1,s.2.2.2.2.1,s.2.2.2.2.2.1,s.2.2.2.2.2.2.1,s.2.2.2.2.2.2.2.1),s.2.2.2.2.2.2.2.2.2)).bind λG=>dn (.done G)) (0,[])) (0,[])
def F23:T23:=B23 std W5 qx F49 yy yA wa
def S23 (F:T23):=sp 23 3 [a0 A5,a1 AO,a2 An] [r0 AO,r1 AP] F
abbrev T7:=(A2×List Ah)→Option (AH×(List Ag)×Int)
def B7 (L:Lp) (a:T22) (b:T23):T7:=λx=>
 (a x.1).bind λc=>q (c.2 != 0) (some (([],[],[],false,([],([],0),((0,[]),[]),0,[],0),false),[],c.2))<|L.run (λd:(List Ag)×Int×(List A6)×(List (List Int))×(List A0)×Bool×(List Int)×(List Aa)×Int×Int×(List Int)×(List Int)×Int×(List Int)×Int×Bool=>q (d.2.1<ln x.2) (ib x.2 d.2.1 λe=>(b (x.1,(d.2.2.1,d.2.2.2.1,d.2.2.2.2.1,d.2.2.2.2.2.1,(d.2.2.2.2.2.2.1,(d.2.2.2.2.2.2.2.1,d.2.2.2.2.2.2.2.2.1),((d.2.2.2.2.2.2.2.2.2.1,d.2.2.2.2.2.2.2.2.2.2.1),d.2.2.2.2.2.2.2.2.2.2.2.1),d.2.2.2.2.2.2.2.2.2.2.2.2.1,d.2.2.2.2.2.2.2.2.2.2.2.2.2.1,d.2.2.2.2.2.2.2.2.2.2.2.2.2.2.1),d.2.2.2.2.2.2.2.2.2.2.2.2.2.2.2),e)).bind λf=>q (room d.1 ([f.2])) (nx (d.1++([f.2]),A1 (d.2.1+1),f.1.1,f.1.2.1,f.1.2.2.1,f.1.2.2.2.1,f.1.2.2.2.2.1.1,f.1.2.2.2.2.1.2.1.1,f.1.2.2.2.2.1.2.1.2,f.1.2.2.2.2.1.2.2.1.1.1,f.1.2.2.2.2.1.2.2.1.1.2,f.1.2.2.2.2.1.2.2.1.2,f.1.2.2.2.2.1.2.2.2.1,f.1.2.2.2.2.1.2.2.2.2.1,f.1.2.2.2.2.1.2.2.2.2.2,f.1.2.2.2.2.2))<|none)<|dn ((d.2.2.1,d.2.2.2.1,d.2.2.2.2.1,d.2.2.2.2.2.1,(d.2.2.2.2.2.2.1,(d.2.2.2.2.2.2.2.1,d.2.2.2.2.2.2.2.2.1),((d.2.2.2.2.2.2.2.2.2.1,d.2.2.2.2.2.2.2.2.2.2.1),d.2.2.2.2.2.2.2.2.2.2.2.1),d.2.2.2.2.2.2.2.2.2.2.2.2.1,d.2.2.2.2.2.2.2.2.2.2.2.2.2.1,d.2.2.2.2.2.2.2.2.2.2.2.2.2.2.1),d.2.2.2.2.2.2.2.2.2.2.2.2.2.2.2),d.1,0)) ([],0,c.1.1,c.1.2.1,c.1.2.2.1,c.1.2.2.2.1,c.1.2.2.2.2.1.1,c.1.2.2.2.2.1.2.1.1,c.1.2.2.2.2.1.2.1.2,c.1.2.2.2.2.1.2.2.1.1.1,c.1.2.2.2.2.1.2.2.1.1.2,c.1.2.2.2.2.1.2.2.1.2,c.1.2.2.2.2.1.2.2.2.1,c.1.2.2.2.2.1.2.2.2.2.1,c.1.2.2.2.2.1.2.2.2.2.2,c.1.2.2.2.2.2)
def F7:T7:=B7 std F22 F23
def S7 (F:T7):=sp 7 2 [a0 A5,a1 (.sl An)] [r0 AO,r1 (.sl AP),r2 ti] F
abbrev mT:=AA→Option (Int×AA)
def wD (L:Lp):mT:=λx=>
 q (x.2.2.2.2.2.2.2.2.2.2==0) (some (x.2.2.2.2.2.2.2.2.1,x))<|ib x.2.2.2.2.2.2.2.2.2.1 (A1 (x.2.2.2.2.2.2.2.2.2.2-1)) λa=>some (a,x)
def mU:mT:=wD std
def wE (F:mT):Nat×Be:=⟨175,1,[18],[(0,.ptr 0)],[zc 0 0 A5,.cell 0 5 (.own A9 60),zc 0 6 (.sl li),.cell 0 7 (.own A3 80),zc 0 8 .bool,zc 0 9 Ae],[r0 ti,zc 0 0 A5,.cell 0 5 (.own A9 60),zc 0 6 (.sl li),.cell 0 7 (.own A3 80),zc 0 8 .bool,zc 0 9 Ae],false,F⟩
abbrev Ym:=(Int×AA)→Option ((List Int)×AA)
def wF (L:Lp):Ym:=λx=>
 q (x.1<0) (some ([],x.2))<|q (x.1≥ln x.2.2.2.1) (some ([],x.2))<|ib x.2.2.2.1 x.1 λa=>some (a,x.2)
def V7:Ym:=wF std
def eH (F:Ym):Nat×Be:=⟨176,2,[18],[(0,.ptr 0)],[a1 ti,zc 0 0 A5,.cell 0 5 (.own A9 60),zc 0 6 (.sl li),.cell 0 7 (.own A3 80),zc 0 8 .bool,zc 0 9 Ae],[r0 li,zc 0 0 A5,.cell 0 5 (.own A9 60),zc 0 6 (.sl li),.cell 0 7 (.own A3 80),zc 0 8 .bool,zc 0 9 Ae],false,F⟩
abbrev eJ:=(Int×AA)→Option (Int×Int×AA)
def M07 (L:Lp) (a:V1):eJ:=λx=>
 L.run (λb:Int=>q (b<ln x.2.2.2.2.1) (ib x.2.2.2.2.1 b λc=>ib x.2.2.1 x.1 λd=>(a (((A7 x.2.2.2.2.1 b c).2).2,(((((((A7 x.2.2.1 x.1 d).2).2).2).2).2).2).2)).bind λe=>q (e≥0) (dn (b,e,x.2))<|nx (A1 (b+1)))<|dn ((-1),(-1),x.2)) 0
def Yn:eJ:=M07 std Y7
def mV (F:eJ):Nat×Be:=⟨243,2,[18],[(0,.ptr 0)],[a1 ti,zc 0 0 A5,.cell 0 5 (.own A9 60),zc 0 6 (.sl li),.cell 0 7 (.own A3 80),zc 0 8 .bool,zc 0 9 Ae],[r0 ti,r1 ti,zc 0 0 A5,.cell 0 5 (.own A9 60),zc 0 6 (.sl li),.cell 0 7 (.own A3 80),zc 0 8 .bool,zc 0 9 Ae],false,F⟩
abbrev mW:=(Int×AA)→Option (Int×Bool×AA)
def wG (L:Lp) (a:MK) (b:eJ):mW:=λx=>
 (a (x.2.2.2.2.2.2.1,x.1)).bind λc=>(b x).bind λd=>q (c<0) (some (0,false,d.2.2))<|q (d.1<0) (some (0,false,d.2.2))<|(L.run (λe:Int=>q (e<x.2.2.2.2.2.2.2.2.1.1.1) (ib x.2.2.2.2.2.2.2.2.1.1.2 c λf=>q (!(e<0)) (q ((CF .i64 (DV .i64 f e) 1)==1) (ib x.2.2.2.2.2.2.2.2.2.2.1 e λg=>dn (.done (g,true,d.2.2)))<|nx (A1 (e+1)))<|none)<|dx ()) x.2.2.2.2.2.2.2.2.2.2.2).bind (AF λh:PUnit=>ib d.2.2.2.2.2.1 d.1 λi=>some (((A7 d.2.2.2.2.2.1 d.1 i).2).1,true,d.2.2))
def eK:mW:=wG std ML Yn
def wH (F:mW):Nat×Be:=⟨177,2,[18],[(0,.ptr 0)],[a1 ti,zc 0 0 A5,.cell 0 5 (.own A9 60),zc 0 6 (.sl li),.cell 0 7 (.own A3 80),zc 0 8 .bool,zc 0 9 Ae],[r0 ti,r1 .bool,zc 0 0 A5,.cell 0 5 (.own A9 60),zc 0 6 (.sl li),.cell 0 7 (.own A3 80),zc 0 8 .bool,zc 0 9 Ae],false,F⟩
abbrev IH:=((List (Int×Int))×Int)→Option (Int×Int)
def SC (L:Lp):IH:=λx=>
 L.run (λa:Int=>q (a<ln x.1) (ib x.1 a λb=>q (b.1==x.2) (dn (a,x.2))<|nx (A1 (a+1)))<|dn ((-1),x.2)) 0
def II:IH:=SC std
def Ox (F:IH):Nat×Be:=⟨178,2,[1],[(1,.fn 179 [] [.ptr 0])],[a0 (.sl (.pair ti ti)),zc 0 0 ti],[r0 ti,zc 0 0 ti],false,F⟩
abbrev eL:=((List (Int×Int))×AA)→Option ((List Ap)×Bool×Bool×AA)
def wI (L:Lp) (a:mT) (b:Ym) (c:mW) (d:IH):eL:=λx=>
 q (!x.2.2.2.2.2.1) (some ([],false,false,x.2))<|q (x.2.2.2.2.2.2.2.2.2.2.2>x.2.2.2.2.2.2.2.2.1.1.1) (some ([],false,false,x.2))<|(a x.2).bind λe=>(b e).bind λf=>L.run (λg:(List Ap)×Bool×Int×(List Int)×(List Aa)×Int×Int×(List Int)×(List Int)×Int×(List Int)×Int×Bool×(List A0)×(List (List Int))×(List A6)×A2=>q (g.2.2.1<ln f.1) (ib f.1 g.2.2.1 λh=>(c (h,g.2.2.2.2.2.2.2.2.2.2.2.2.2.2.2.2,g.2.2.2.2.2.2.2.2.2.2.2.2.2.2.2.1,g.2.2.2.2.2.2.2.2.2.2.2.2.2.2.1,g.2.2.2.2.2.2.2.2.2.2.2.2.2.1,g.2.2.2.2.2.2.2.2.2.2.2.2.1,g.2.2.2.1,(g.2.2.2.2.1,g.2.2.2.2.2.1),((g.2.2.2.2.2.2.1,g.2.2.2.2.2.2.2.1),g.2.2.2.2.2.2.2.2.1),g.2.2.2.2.2.2.2.2.2.1,g.2.2.2.2.2.2.2.2.2.2.1,g.2.2.2.2.2.2.2.2.2.2.2.1)).bind λi=>q (!i.2.1) (dn ([],false,false,i.2.2))<|(d (x.1,g.2.2.1)).bind λj=>q (j.1≥0) (ib x.1 j.1 λk=>q (k.2 != i.1) (ib x.1 j.1 λl=>q (room g.1 ([(h,e.1,l.2,false)])) (nx (g.1++([(h,e.1,l.2,false)]),true,A1 (g.2.2.1+1),i.2.2.2.2.2.2.2.1,i.2.2.2.2.2.2.2.2.1.1,i.2.2.2.2.2.2.2.2.1.2,i.2.2.2.2.2.2.2.2.2.1.1.1,i.2.2.2.2.2.2.2.2.2.1.1.2,i.2.2.2.2.2.2.2.2.2.1.2,i.2.2.2.2.2.2.2.2.2.2.1,i.2.2.2.2.2.2.2.2.2.2.2.1,i.2.2.2.2.2.2.2.2.2.2.2.2,i.2.2.2.2.2.2.1,i.2.2.2.2.2.1,i.2.2.2.2.1,i.2.2.2.1,i.2.2.1))<|none)<|q (room g.1 ([(h,e.1,i.1,false)])) (nx (g.1++([(h,e.1,i.1,false)]),g.2.1,A1 (g.2.2.1+1),i.2.2.2.2.2.2.2.1,i.2.2.2.2.2.2.2.2.1.1,i.2.2.2.2.2.2.2.2.1.2,i.2.2.2.2.2.2.2.2.2.1.1.1,i.2.2.2.2.2.2.2.2.2.1.1.2,i.2.2.2.2.2.2.2.2.2.1.2,i.2.2.2.2.2.2.2.2.2.2.1,i.2.2.2.2.2.2.2.2.2.2.2.1,i.2.2.2.2.2.2.2.2.2.2.2.2,i.2.2.2.2.2.2.1,i.2.2.2.2.2.1,i.2.2.2.2.1,i.2.2.2.1,i.2.2.1))<|none)<|q (room g.1 ([(h,e.1,i.1,false)])) (nx (g.1++([(h,e.1,i.1,false)]),g.2.1,A1 (g.2.2.1+1),i.2.2.2.2.2.2.2.1,i.2.2.2.2.2.2.2.2.1.1,i.2.2.2.2.2.2.2.2.1.2,i.2.2.2.2.2.2.2.2.2.1.1.1,i.2.2.2.2.2.2.2.2.2.1.1.2,i.2.2.2.2.2.2.2.2.2.1.2,i.2.2.2.2.2.2.2.2.2.2.1,i.2.2.2.2.2.2.2.2.2.2.2.1,i.2.2.2.2.2.2.2.2.2.2.2.2,i.2.2.2.2.2.2.1,i.2.2.2.2.2.1,i.2.2.2.2.1,i.2.2.2.1,i.2.2.1))<|none)<|dn (g.1,g.2.1,true,g.2.2.2.2.2.2.2.2.2.2.2.2.2.2.2.2,g.2.2.2.2.2.2.2.2.2.2.2.2.2.2.2.1,g.2.2.2.2.2.2.2.2.2.2.2.2.2.2.1,g.2.2.2.2.2.2.2.2.2.2.2.2.2.1,g.2.2.2.2.2.2.2.2.2.2.2.2.1,g.2.2.2.1,(g.2.2.2.2.1,g.2.2.2.2.2.1),((g.2.2.2.2.2.2.1,g.2.2.2.2.2.2.2.1),g.2.2.2.2.2.2.2.2.1),g.2.2.2.2.2.2.2.2.2.1,g.2.2.2.2.2.2.2.2.2.2.1,g.2.2.2.2.2.2.2.2.2.2.2.1)) ([],false,0,f.2.2.2.2.2.2.1,f.2.2.2.2.2.2.2.1.1,f.2.2.2.2.2.2.2.1.2,f.2.2.2.2.2.2.2.2.1.1.1,f.2.2.2.2.2.2.2.2.1.1.2,f.2.2.2.2.2.2.2.2.1.2,f.2.2.2.2.2.2.2.2.2.1,f.2.2.2.2.2.2.2.2.2.2.1,f.2.2.2.2.2.2.2.2.2.2.2,f.2.2.2.2.2.1,f.2.2.2.2.1,f.2.2.2.1,f.2.2.1,f.2.1)
def V8:eL:=wI std mU V7 eK II
def mX (F:eL):Nat×Be:=⟨106,2,[18],[(0,.ptr 0)],[a1 (.sl (.pair ti ti)),zc 0 0 A5,.cell 0 5 (.own A9 60),zc 0 6 (.sl li),.cell 0 7 (.own A3 80),zc 0 8 .bool,zc 0 9 Ae],[r0 (.sl Aj),r1 .bool,r2 .bool,zc 0 0 A5,.cell 0 5 (.own A9 60),zc 0 6 (.sl li),.cell 0 7 (.own A3 80),zc 0 8 .bool,zc 0 9 Ae],false,F⟩
abbrev Yo:=Ah→Option ((List A6)×Bool)
def mY (L:Lp) (a:dW):Yo:=λx=>
 q (x.1 != 1) (some ([],true))<|(a x.2.2.2.2.2.2.2.2.2).bind λb=>some (b.1,b.2==0)
def Oy:Yo:=mY std Sz
def eM (F:Yo):=sp 109 1 [a0 An] [r0 (.sl A9),r1 .bool] F
abbrev eN:=(Ah×(List Ap)×AA)→Option ((List (List Int))×Bool×AA)
def wJ (L:Lp) (a:Yo) (b:kZ):eN:=λx=>
 (a x.1).bind λc=>q (!c.2) (some ([],false,x.2.2))<|q ((ln x.2.1)==0) (some (x.2.2.2.2.1,true,x.2.2))<|(q (A1 (0+(ln x.2.2.2.1))<0) none<|q (A1 ((A1 (0+(ln x.2.2.2.1)))+(ln c.1))<0) none<|q (A1 ((A1 (0+(ln x.2.2.2.1)))+(ln c.1))<0) none<|q (A1 ((A1 ((A1 (0+(ln x.2.2.2.1)))+(ln c.1)))-(A1 (0-0)))>0) (q (q (0<A1 ((A1 ((A1 (0+(ln x.2.2.2.1)))+(ln c.1)))-(A1 (0-0)))) (decide (A1 ((A1 ((A1 (0+(ln x.2.2.2.1)))+(ln c.1)))-(A1 (0-0)))≤4294967296))<|false) ((sub (List.replicate (Int.toNat (A1 ((A1 ((A1 (0+(ln x.2.2.2.1)))+(ln c.1)))-(A1 (0-0))))) ([],0,0,0,0,0,false,[])) 0 0).bind λd=>q (room d x.2.2.2.1) (q (room (d++x.2.2.2.1) c.1) ((L.run (λe:(List Int)×Int=>q (e.2<ln ((d++x.2.2.2.1)++c.1)) (ib ((d++x.2.2.2.1)++c.1) e.2 λf=>q (room e.1 ([((A7 ((d++x.2.2.2.1)++c.1) e.2 f).2).1])) (nx (e.1++([((A7 ((d++x.2.2.2.1)++c.1) e.2 f).2).1]),A1 (e.2+1)))<|none)<|dx e.1) ([],0)).bind λz=>some z)<|none)<|none)<|none)<|q (room [] x.2.2.2.1) (q (room ([]++x.2.2.2.1) c.1) ((L.run (λg:(List Int)×Int=>q (g.2<ln (([]++x.2.2.2.1)++c.1)) (ib (([]++x.2.2.2.1)++c.1) g.2 λh=>q (room g.1 ([((A7 (([]++x.2.2.2.1)++c.1) g.2 h).2).1])) (nx (g.1++([((A7 (([]++x.2.2.2.1)++c.1) g.2 h).2).1]),A1 (g.2+1)))<|none)<|dx g.1) ([],0)).bind λz=>some z)<|none)<|none).bind (AF λi:List Int=>(b (x.2.2.1.1,i,x.2.2.2.2.1,x.2.1)).bind λj=>some (j.1,j.2.2==0,x.2.2))
def SD:eN:=wJ std Oy Y6
def mZ (F:eN):Nat×Be:=⟨108,3,[18],[(0,.ptr 0)],[a1 An,a2 (.sl Aj),zc 0 0 A5,.cell 0 5 (.own A9 60),zc 0 6 (.sl li),.cell 0 7 (.own A3 80),zc 0 8 .bool,zc 0 9 Ae],[r0 (.sl li),r1 .bool,zc 0 0 A5,.cell 0 5 (.own A9 60),zc 0 6 (.sl li),.cell 0 7 (.own A3 80),zc 0 8 .bool,zc 0 9 Ae],false,F⟩
abbrev V9:=((List Ap)×List Ap)→Option Bool
def wK (L:Lp):V9:=λx=>
 q ((ln x.1)!=(ln x.2)) (some false)<|L.run (λa:Int=>q (a<ln x.1) (ib x.1 a λb=>ib x.2 a λc=>q (!(q (b.1==c.1) (q (b.2.1==c.2.1) (q (b.2.2.1==c.2.2.1) (b.2.2.2==c.2.2.2)<|false)<|false)<|false)) (dn false)<|nx (A1 (a+1)))<|dn true) 0
def SE:V9:=wK std
def Yp (F:V9):=sq 174 2 [a0 (.sl Aj),a1 (.sl Aj)] [r0 .bool] F
abbrev n7:=(Ah×Ag×AA)→Option (Bool×AA)
def wL (L:Lp) (a:Yo) (b:eG) (c:V9):n7:=λx=>
 (q (x.1.1==1) ((a x.1).bind λd=>L.run (λe:(List Ap)×Int=>q (e.2<ln d.1) (q (room e.1 ([(A1 ((ln x.2.2.2.1)+e.2),(-1),x.1.2.1,false)])) (nx (e.1++([(A1 ((ln x.2.2.2.1)+e.2),(-1),x.1.2.1,false)]),A1 (e.2+1)))<|none)<|dx e.1) ([],0))<|q (x.1.1==2) (nx [])<|q (x.1.1==3) (nx [])<|q (x.1.1==6) ((b (x.2.2.2.2.1,x.1.2.1,x.1.2.2.1,x.1.2.2.2.1)).bind λf=>q (f.2 != 0) (dn (true,x.2.2))<|nx f.1)<|dn (false,x.2.2)).bind (AF λg:List Ap=>(c (g,x.2.1.2.1)).bind λh=>some (!h,x.2.2))
def eO:n7:=wL std Oy V6 SE
def wM (F:n7):Nat×Be:=⟨169,3,[18],[(0,.ptr 0)],[a1 An,a2 AP,zc 0 0 A5,.cell 0 5 (.own A9 60),zc 0 6 (.sl li),.cell 0 7 (.own A3 80),zc 0 8 .bool,zc 0 9 Ae],[r0 .bool,zc 0 0 A5,.cell 0 5 (.own A9 60),zc 0 6 (.sl li),.cell 0 7 (.own A3 80),zc 0 8 .bool,zc 0 9 Ae],false,F⟩
abbrev n8:=((List A6)×List A6)→Option Bool
def wN (L:Lp):n8:=λx=>
 q ((ln x.1)!=(ln x.2)) (some false)<|L.run (λa:Int=>q (a<ln x.1) (ib x.1 a λb=>ib x.2 a λc=>q (!(q (b.1==c.1) (q (b.2.1==c.2.1) (q (b.2.2.1==c.2.2.1) (q (b.2.2.2.1==c.2.2.2.1) (q (b.2.2.2.2.1==c.2.2.2.2.1) (q (b.2.2.2.2.2.1==c.2.2.2.2.2.1) (q (b.2.2.2.2.2.2.1==c.2.2.2.2.2.2.1) (b.2.2.2.2.2.2.2==c.2.2.2.2.2.2.2)<|false)<|false)<|false)<|false)<|false)<|false)<|false)) (dn false)<|nx (A1 (a+1)))<|dn true) 0
def n9:n8:=wN std
def wO (F:n8):=sq 238 2 [a0 (.sl A9),a1 (.sl A9)] [r0 .bool] F
abbrev nc:=((List (Int×Int×Int))×List (Int×Int×Int))→Option Bool
def wP (L:Lp):nc:=λx=>
 q ((ln x.1)!=(ln x.2)) (some false)<|L.run (λa:Int=>q (a<ln x.1) (ib x.1 a λb=>ib x.2 a λc=>q (!(q (b.1==c.1) (q (b.2.1==c.2.1) (b.2.2==c.2.2)<|false)<|false)) (dn false)<|nx (A1 (a+1)))<|dn true) 0
def nf:nc:=wP std
def wQ (F:nc):=sq 239 2 [a0 (.sl (.pair ti (.pair ti ti))),a1 (.sl (.pair ti (.pair ti ti)))] [r0 .bool] F
abbrev ng:=(Ah×Ag×AA)→Option (Bool×AA)
def nh (L:Lp) (a:dS) (b:V9) (c:Ym) (d:n8) (e:nc):ng:=λx=>
 q (x.1.1 != 7) (some (false,x.2.2))<|L.run (λf:Int=>q (f<ln x.2.2.2.2.2.1) (ib x.2.2.2.2.2.1 f λg=>q (((A7 x.2.2.2.2.2.1 f g).1)==x.1.2.2.2.2.2.2.2.2.1) ((q (f<0) (some (true,x.2.2))<|(ib x.2.2.2.2.2.1 f λh=>(c (((A7 x.2.2.2.2.2.1 f h).2).1,x.2.2)).bind λi=>L.run (λj:(List Ap)×(List A6)×Int=>q (j.2.2<ln i.1) (ib i.1 j.2.2 λk=>ib i.2.2.2.2.1 f λl=>q (room j.1 ([(k,((A7 i.2.2.2.2.1 f l).2).1,(-1),false)])) (ib i.2.2.1 k λm=>q (room j.2.1 ([((A7 i.2.2.1 k m).1,((A7 i.2.2.1 k m).2).1,(((A7 i.2.2.1 k m).2).2).1,((((A7 i.2.2.1 k m).2).2).2).1,(((((A7 i.2.2.1 k m).2).2).2).2).1,((((((A7 i.2.2.1 k m).2).2).2).2).2).1,(((((((A7 i.2.2.1 k m).2).2).2).2).2).2).1,(((((((A7 i.2.2.1 k m).2).2).2).2).2).2).2)])) (nx (j.1++([(k,((A7 i.2.2.2.2.1 f l).2).1,(-1),false)]),j.2.1++([((A7 i.2.2.1 k m).1,((A7 i.2.2.1 k m).2).1,(((A7 i.2.2.1 k m).2).2).1,((((A7 i.2.2.1 k m).2).2).2).1,(((((A7 i.2.2.1 k m).2).2).2).2).1,((((((A7 i.2.2.1 k m).2).2).2).2).2).1,(((((((A7 i.2.2.1 k m).2).2).2).2).2).2).1,(((((((A7 i.2.2.1 k m).2).2).2).2).2).2).2)]),A1 (j.2.2+1)))<|none)<|none)<|dx (j.1,j.2.1,i.2.2.2.2.2.2.1,i.2.2.2.2.2.2.2.1.1,i.2.2.2.2.2.2.2.1.2,i.2.2.2.2.2.2.2.2.1.1.1,i.2.2.2.2.2.2.2.2.1.1.2,i.2.2.2.2.2.2.2.2.1.2,i.2.2.2.2.2.2.2.2.2.1,i.2.2.2.2.2.2.2.2.2.2.1,i.2.2.2.2.2.2.2.2.2.2.2,i.2.2.2.2.2.1,i.2.2.2.2.1,i.2.2.2.1,i.2.2.1,i.2.1)) ([],[],0)).bind (AF λn:(List Ap)×(List A6)×(List Int)×(List Aa)×Int×Int×(List Int)×(List Int)×Int×(List Int)×Int×Bool×(List A0)×(List (List Int))×(List A6)×A2=>ib n.2.2.2.2.2.2.2.2.2.2.2.2.1 f λo=>(a (n.2.2.2.2.2.2.2.2.2.2.2.2.2.2.2,((A7 n.2.2.2.2.2.2.2.2.2.2.2.2.1 f o).1,((A7 n.2.2.2.2.2.2.2.2.2.2.2.2.1 f o).2).1,((A7 n.2.2.2.2.2.2.2.2.2.2.2.2.1 f o).2).2),n.2.1)).bind λp=>q (p.1.1==x.2.1.2.2.2.2.1.1) ((d (p.1.2.1,x.2.1.2.2.2.2.1.2.1)).bind λr=>q r (q (q (p.1.2.2.1.1==x.2.1.2.2.2.2.1.2.2.1.1) (q (p.1.2.2.1.2.1==x.2.1.2.2.2.2.1.2.2.1.2.1) (q (p.1.2.2.1.2.2.1==x.2.1.2.2.2.2.1.2.2.1.2.2.1) (q (p.1.2.2.1.2.2.2.1==x.2.1.2.2.2.2.1.2.2.1.2.2.2.1) (q (p.1.2.2.1.2.2.2.2.1==x.2.1.2.2.2.2.1.2.2.1.2.2.2.2.1) (q (p.1.2.2.1.2.2.2.2.2.1==x.2.1.2.2.2.2.1.2.2.1.2.2.2.2.2.1) (p.1.2.2.1.2.2.2.2.2.2==x.2.1.2.2.2.2.1.2.2.1.2.2.2.2.2.2)<|false)<|false)<|false)<|false)<|false)<|false) ((e (p.1.2.2.2,x.2.1.2.2.2.2.1.2.2.2)).bind λs=>q (p.2.2.2 != 0) (some (true,n.2.2.2.2.2.2.2.2.2.2.2.2.2.2.2,n.2.2.2.2.2.2.2.2.2.2.2.2.2.2.1,n.2.2.2.2.2.2.2.2.2.2.2.2.2.1,n.2.2.2.2.2.2.2.2.2.2.2.2.1,n.2.2.2.2.2.2.2.2.2.2.2.1,n.2.2.1,(n.2.2.2.1,n.2.2.2.2.1),((n.2.2.2.2.2.1,n.2.2.2.2.2.2.1),n.2.2.2.2.2.2.2.1),n.2.2.2.2.2.2.2.2.1,n.2.2.2.2.2.2.2.2.2.1,n.2.2.2.2.2.2.2.2.2.2.1))<|q (!s) (some (true,n.2.2.2.2.2.2.2.2.2.2.2.2.2.2.2,n.2.2.2.2.2.2.2.2.2.2.2.2.2.2.1,n.2.2.2.2.2.2.2.2.2.2.2.2.2.1,n.2.2.2.2.2.2.2.2.2.2.2.2.1,n.2.2.2.2.2.2.2.2.2.2.2.1,n.2.2.1,(n.2.2.2.1,n.2.2.2.2.1),((n.2.2.2.2.2.1,n.2.2.2.2.2.2.1),n.2.2.2.2.2.2.2.1),n.2.2.2.2.2.2.2.2.1,n.2.2.2.2.2.2.2.2.2.1,n.2.2.2.2.2.2.2.2.2.2.1))<|(b (n.1,x.2.1.2.1)).bind λt=>some (!t,n.2.2.2.2.2.2.2.2.2.2.2.2.2.2.2,n.2.2.2.2.2.2.2.2.2.2.2.2.2.2.1,n.2.2.2.2.2.2.2.2.2.2.2.2.2.1,n.2.2.2.2.2.2.2.2.2.2.2.2.1,n.2.2.2.2.2.2.2.2.2.2.2.1,n.2.2.1,(n.2.2.2.1,n.2.2.2.2.1),((n.2.2.2.2.2.1,n.2.2.2.2.2.2.1),n.2.2.2.2.2.2.2.1),n.2.2.2.2.2.2.2.2.1,n.2.2.2.2.2.2.2.2.2.1,n.2.2.2.2.2.2.2.2.2.2.1))<|q (p.2.2.2 != 0) (some (true,n.2.2.2.2.2.2.2.2.2.2.2.2.2.2.2,n.2.2.2.2.2.2.2.2.2.2.2.2.2.2.1,n.2.2.2.2.2.2.2.2.2.2.2.2.2.1,n.2.2.2.2.2.2.2.2.2.2.2.2.1,n.2.2.2.2.2.2.2.2.2.2.2.1,n.2.2.1,(n.2.2.2.1,n.2.2.2.2.1),((n.2.2.2.2.2.1,n.2.2.2.2.2.2.1),n.2.2.2.2.2.2.2.1),n.2.2.2.2.2.2.2.2.1,n.2.2.2.2.2.2.2.2.2.1,n.2.2.2.2.2.2.2.2.2.2.1))<|some (true,n.2.2.2.2.2.2.2.2.2.2.2.2.2.2.2,n.2.2.2.2.2.2.2.2.2.2.2.2.2.2.1,n.2.2.2.2.2.2.2.2.2.2.2.2.2.1,n.2.2.2.2.2.2.2.2.2.2.2.2.1,n.2.2.2.2.2.2.2.2.2.2.2.1,n.2.2.1,(n.2.2.2.1,n.2.2.2.2.1),((n.2.2.2.2.2.1,n.2.2.2.2.2.2.1),n.2.2.2.2.2.2.2.1),n.2.2.2.2.2.2.2.2.1,n.2.2.2.2.2.2.2.2.2.1,n.2.2.2.2.2.2.2.2.2.2.1))<|q (p.2.2.2 != 0) (some (true,n.2.2.2.2.2.2.2.2.2.2.2.2.2.2.2,n.2.2.2.2.2.2.2.2.2.2.2.2.2.2.1,n.2.2.2.2.2.2.2.2.2.2.2.2.2.1,n.2.2.2.2.2.2.2.2.2.2.2.2.1,n.2.2.2.2.2.2.2.2.2.2.2.1,n.2.2.1,(n.2.2.2.1,n.2.2.2.2.1),((n.2.2.2.2.2.1,n.2.2.2.2.2.2.1),n.2.2.2.2.2.2.2.1),n.2.2.2.2.2.2.2.2.1,n.2.2.2.2.2.2.2.2.2.1,n.2.2.2.2.2.2.2.2.2.2.1))<|some (true,n.2.2.2.2.2.2.2.2.2.2.2.2.2.2.2,n.2.2.2.2.2.2.2.2.2.2.2.2.2.2.1,n.2.2.2.2.2.2.2.2.2.2.2.2.2.1,n.2.2.2.2.2.2.2.2.2.2.2.2.1,n.2.2.2.2.2.2.2.2.2.2.2.1,n.2.2.1,(n.2.2.2.1,n.2.2.2.2.1),((n.2.2.2.2.2.1,n.2.2.2.2.2.2.1),n.2.2.2.2.2.2.2.1),n.2.2.2.2.2.2.2.2.1,n.2.2.2.2.2.2.2.2.2.1,n.2.2.2.2.2.2.2.2.2.2.1))<|q (p.2.2.2 != 0) (some (true,n.2.2.2.2.2.2.2.2.2.2.2.2.2.2.2,n.2.2.2.2.2.2.2.2.2.2.2.2.2.2.1,n.2.2.2.2.2.2.2.2.2.2.2.2.2.1,n.2.2.2.2.2.2.2.2.2.2.2.2.1,n.2.2.2.2.2.2.2.2.2.2.2.1,n.2.2.1,(n.2.2.2.1,n.2.2.2.2.1),((n.2.2.2.2.2.1,n.2.2.2.2.2.2.1),n.2.2.2.2.2.2.2.1),n.2.2.2.2.2.2.2.2.1,n.2.2.2.2.2.2.2.2.2.1,n.2.2.2.2.2.2.2.2.2.2.1))<|some (true,n.2.2.2.2.2.2.2.2.2.2.2.2.2.2.2,n.2.2.2.2.2.2.2.2.2.2.2.2.2.2.1,n.2.2.2.2.2.2.2.2.2.2.2.2.2.1,n.2.2.2.2.2.2.2.2.2.2.2.2.1,n.2.2.2.2.2.2.2.2.2.2.2.1,n.2.2.1,(n.2.2.2.1,n.2.2.2.2.1),((n.2.2.2.2.2.1,n.2.2.2.2.2.2.1),n.2.2.2.2.2.2.2.1),n.2.2.2.2.2.2.2.2.1,n.2.2.2.2.2.2.2.2.2.1,n.2.2.2.2.2.2.2.2.2.2.1))).bind λu=>dn u)<|nx (A1 (f+1)))<|(some (true,x.2.2)).bind λv=>dn v) 0
def Va:ng:=nh std V2 SE V7 n9 nf
def wR (F:ng):Nat×Be:=⟨170,3,[18],[(0,.ptr 0)],[a1 An,a2 AP,zc 0 0 A5,.cell 0 5 (.own A9 60),zc 0 6 (.sl li),.cell 0 7 (.own A3 80),zc 0 8 .bool,zc 0 9 Ae],[r0 .bool,zc 0 0 A5,.cell 0 5 (.own A9 60),zc 0 6 (.sl li),.cell 0 7 (.own A3 80),zc 0 8 .bool,zc 0 9 Ae],false,F⟩
abbrev eP:=((List Int)×AA)→Option ((List Aa)×Bool×AA)
def wS (L:Lp) (a:eJ):eP:=λx=>
 L.run (λb:(List Aa)×Int×(List Int)×(List Aa)×Int×Int×(List Int)×(List Int)×Int×(List Int)×Int×Bool×(List A0)×(List (List Int))×(List A6)×A2=>q (b.2.1<ln x.1) (ib x.1 b.2.1 λc=>(a (c,b.2.2.2.2.2.2.2.2.2.2.2.2.2.2.2,b.2.2.2.2.2.2.2.2.2.2.2.2.2.2.1,b.2.2.2.2.2.2.2.2.2.2.2.2.2.1,b.2.2.2.2.2.2.2.2.2.2.2.2.1,b.2.2.2.2.2.2.2.2.2.2.2.1,b.2.2.1,(b.2.2.2.1,b.2.2.2.2.1),((b.2.2.2.2.2.1,b.2.2.2.2.2.2.1),b.2.2.2.2.2.2.2.1),b.2.2.2.2.2.2.2.2.1,b.2.2.2.2.2.2.2.2.2.1,b.2.2.2.2.2.2.2.2.2.2.1)).bind λd=>q (d.1<0) (dn ([],false,d.2.2))<|ib d.2.2.2.1 c λe=>q (room b.1 ([(d.1,d.2.1,0,((A7 d.2.2.2.1 c e).2).1)])) (nx (b.1++([(d.1,d.2.1,0,((A7 d.2.2.2.1 c e).2).1)]),A1 (b.2.1+1),d.2.2.2.2.2.2.2.1,d.2.2.2.2.2.2.2.2.1.1,d.2.2.2.2.2.2.2.2.1.2,d.2.2.2.2.2.2.2.2.2.1.1.1,d.2.2.2.2.2.2.2.2.2.1.1.2,d.2.2.2.2.2.2.2.2.2.1.2,d.2.2.2.2.2.2.2.2.2.2.1,d.2.2.2.2.2.2.2.2.2.2.2.1,d.2.2.2.2.2.2.2.2.2.2.2.2,d.2.2.2.2.2.2.1,d.2.2.2.2.2.1,d.2.2.2.2.1,d.2.2.2.1,d.2.2.1))<|none)<|dn (b.1,true,b.2.2.2.2.2.2.2.2.2.2.2.2.2.2.2,b.2.2.2.2.2.2.2.2.2.2.2.2.2.2.1,b.2.2.2.2.2.2.2.2.2.2.2.2.2.1,b.2.2.2.2.2.2.2.2.2.2.2.2.1,b.2.2.2.2.2.2.2.2.2.2.2.1,b.2.2.1,(b.2.2.2.1,b.2.2.2.2.1),((b.2.2.2.2.2.1,b.2.2.2.2.2.2.1),b.2.2.2.2.2.2.2.1),b.2.2.2.2.2.2.2.2.1,b.2.2.2.2.2.2.2.2.2.1,b.2.2.2.2.2.2.2.2.2.2.1)) ([],0,x.2.2.2.2.2.2.1,x.2.2.2.2.2.2.2.1.1,x.2.2.2.2.2.2.2.1.2,x.2.2.2.2.2.2.2.2.1.1.1,x.2.2.2.2.2.2.2.2.1.1.2,x.2.2.2.2.2.2.2.2.1.2,x.2.2.2.2.2.2.2.2.2.1,x.2.2.2.2.2.2.2.2.2.2.1,x.2.2.2.2.2.2.2.2.2.2.2,x.2.2.2.2.2.1,x.2.2.2.2.1,x.2.2.2.1,x.2.2.1,x.2.1)
def eQ:eP:=wS std Yn
def ni (F:eP):Nat×Be:=⟨241,2,[18],[(0,.ptr 0)],[a1 li,zc 0 0 A5,.cell 0 5 (.own A9 60),zc 0 6 (.sl li),.cell 0 7 (.own A3 80),zc 0 8 .bool,zc 0 9 Ae],[o0 Ai 157,r1 .bool,zc 0 0 A5,.cell 0 5 (.own A9 60),zc 0 6 (.sl li),.cell 0 7 (.own A3 80),zc 0 8 .bool,zc 0 9 Ae],false,F⟩
abbrev nj:=AA→Option (Ac×(List Int)×Bool×AA)
def wT (L:Lp) (a:JX) (b:MK) (c:eP):nj:=λx=>
 (L.run (λd:AC=>q (d.1<ln x.2.2.2.1) (ib x.2.2.2.1 d.1 λe=>q (room d.2 ([((A7 x.2.2.2.1 d.1 e).2).1])) (nx (A1 (d.1+1),d.2++([((A7 x.2.2.2.1 d.1 e).2).1])))<|none)<|dx d.2) (0,[])).bind (AF λf:List Int=>(L.run (λg:(List Int)×Int=>q (g.2<ln x.2.2.1) (ib x.2.2.1 g.2 λh=>L.run (λi:(List Int)×Int=>q (i.2<ln h) (ib h i.2 λj=>(a (f,g.2)).bind λk=>q k (q (room i.1 [j]) (nx (i.1++[j],A1 (i.2+1)))<|none)<|q x.2.2.2.2.1 ((a (x.2.2.2.2.2.1,j)).bind λl=>q l (q (room i.1 [j]) (nx (i.1++[j],A1 (i.2+1)))<|none)<|nx (i.1,A1 (i.2+1)))<|nx (i.1,A1 (i.2+1)))<|dx (i.1,A1 (g.2+1))) (g.1,0))<|dx g.1) ([],0)).bind (AF λm:List Int=>(L.s1 m).bind λn=>(c (n,x)).bind λo=>L.run (λp:Int×List (List Int)=>q (p.1<ln o.2.2.2.2.1) (ib o.2.2.2.2.1 p.1 λr=>(L.run (λs:(List Int)×Int=>q (s.2<ln r) (ib r s.2 λt=>(b (n,t)).bind λu=>q (u≥0) (q (room s.1 [u]) (nx (s.1++[u],A1 (s.2+1)))<|none)<|nx (s.1,A1 (s.2+1)))<|dx s.1) ([],0)).bind (AF λv:List Int=>q (room p.2 [v]) (nx (A1 (p.1+1),p.2++[v]))<|none))<|dn ((o.1,f,p.2),n,o.2)) (0,[])))
def nk:nj:=wT std JY ML eQ
def wU (F:nj):Nat×Be:=⟨240,1,[18],[(0,.ptr 0)],[zc 0 0 A5,.cell 0 5 (.own A9 60),zc 0 6 (.sl li),.cell 0 7 (.own A3 80),zc 0 8 .bool,zc 0 9 Ae],[r0 AB,r1 li,r2 .bool,zc 0 0 A5,.cell 0 5 (.own A9 60),zc 0 6 (.sl li),.cell 0 7 (.own A3 80),zc 0 8 .bool,zc 0 9 Ae],false,F⟩
abbrev nl:=(Ah×Ag×AA)→Option (Bool×AA)
def eR (L:Lp) (a:eF) (b:V9) (c:JX) (d:MK) (e:dI) (f:nj):nl:=λx=>
 q (x.1.1 != 5) (some (false,x.2.2))<|(f x.2.2).bind λg=>q (!g.2.2.1) (some (true,g.2.2.2))<|(L.run (λh:Bb=>q (h.2<ln x.2.1.2.2.2.1) (ib x.2.1.2.2.2.1 h.2 λi=>(d (g.2.1,i.1)).bind λj=>q (j<0) (dn (.done (true,g.2.2.2)))<|q (i.2.2.1 !=(-1)) ((c (g.2.1,i.2.2.1)).bind λk=>q (!k) (dn (.done (true,g.2.2.2)))<|(d (g.2.1,i.2.2.1)).bind λl=>q (room h.1 ([(j,i.2.1,l,i.2.2.2)])) (nx (h.1++([(j,i.2.1,l,i.2.2.2)]),A1 (h.2+1)))<|none)<|(d (g.2.1,i.2.2.1)).bind λm=>q (room h.1 ([(j,i.2.1,m,i.2.2.2)])) (nx (h.1++([(j,i.2.1,m,i.2.2.2)]),A1 (h.2+1)))<|none)<|dx h.1) ([],0)).bind (AF λn:List Aa=>(a (g.1,n,x.1.2.2.2.2.1)).bind λo=>q (o.2.2 != 0) (some (true,g.2.2.2))<|(L.run (λp:(List Ap)×Int=>q (p.2<ln o.2.1) (ib o.2.1 p.2 λr=>ib g.2.1 r λs=>(e (g.2.2.2.2.2.1,s)).bind λt=>ib g.2.1 r λu=>q (room p.1 ([(u,t.1,x.1.2.1,false)])) (nx (p.1++([(u,t.1,x.1.2.1,false)]),A1 (p.2+1)))<|none)<|dx p.1) ([],0)).bind (AF λv:List Ap=>(b (v,x.2.1.2.1)).bind λw=>some (!w,g.2.2.2)))
def Qx:nl:=eR std OT SE JY ML kX nk
def wV (F:nl):Nat×Be:=⟨171,3,[18],[(0,.ptr 0)],[a1 An,a2 AP,zc 0 0 A5,.cell 0 5 (.own A9 60),zc 0 6 (.sl li),.cell 0 7 (.own A3 80),zc 0 8 .bool,zc 0 9 Ae],[r0 .bool,zc 0 0 A5,.cell 0 5 (.own A9 60),zc 0 6 (.sl li),.cell 0 7 (.own A3 80),zc 0 8 .bool,zc 0 9 Ae],false,F⟩
abbrev eS:=(Ah×Ag×AA)→Option ((List Int)×Bool×AA)
def eU (L:Lp) (a:Ym) (b:kV):eS:=λx=>
 q (x.1.1==3) ((a (x.1.2.1,x.2.2)).bind λc=>(b c.1).bind λd=>some (d,true,c.2))<|q (x.1.1==5) (q (ln x.2.1.2.2.2.1>0) (L.run (λe:(List Int)×Int=>q (e.2<ln x.2.1.2.1) (ib x.2.1.2.1 e.2 λf=>q (room e.1 [f.1]) (nx (e.1++[f.1],A1 (e.2+1)))<|none)<|dn (e.1,true,x.2.2)) ([],0))<|some ([],false,x.2.2))<|some ([],false,x.2.2)
def Ju:eS:=eU std V7 W5
def np (F:eS):Nat×Be:=⟨107,3,[18],[(0,.ptr 0)],[a1 An,a2 AP,zc 0 0 A5,.cell 0 5 (.own A9 60),zc 0 6 (.sl li),.cell 0 7 (.own A3 80),zc 0 8 .bool,zc 0 9 Ae],[o0 ti 3,r1 .bool,zc 0 0 A5,.cell 0 5 (.own A9 60),zc 0 6 (.sl li),.cell 0 7 (.own A3 80),zc 0 8 .bool,zc 0 9 Ae],false,F⟩
abbrev nq:=(Int×Int×Int)→Option Bool
def wW (L:Lp) (a:em) (b:ew):nq:=λx=>
 (a x.2).bind λc=>q c (q (x.1≥0) (q (x.1≤4095) (q (!(x.2.1<0)) (q (!(x.2.1<0)) (q ((CF .i64 x.1 (A1 ((Gs .i64 1 x.2.1)-1)))==(A1 ((Gs .i64 1 x.2.1)-1))) (q (!(x.2.1<0)) ((b (DV .i64 x.1 x.2.1)).bind λd=>some (decide (d≤x.2.2)))<|none)<|some false)<|none)<|none)<|some false)<|some false)<|some false
def eV:nq:=wW std eu Yd
def wX (F:nq):=sq 332 3 [a0 ti,a1 ti,a2 ti] [r0 .bool] F
abbrev nr:=(Bb×AC)→Option Int
def wY (L:Lp) (a:Qw) (b:nq):nr:=λx=>
 (a x.1).bind λc=>q (c != 0) (some c)<|q (x.2.1<0) (some 1)<|q (x.2.1>12) (some 1)<|q ((ln x.2.2)!=(ln x.1.1)) (some 1)<|L.run (λd:Int=>q (d<ln x.2.2) (ib x.2.2 d λe=>ib x.1.1 d λf=>(b (e,f.2.2.1,x.1.2)).bind λg=>q (!g) (dn 1)<|q (!(x.2.1<0)) (q ((DV .i64 e x.2.1)!=0) (dn 1)<|nx (A1 (d+1)))<|none)<|dn 0) 0
def ns:nr:=wY std Jt eV
def wZ (F:nr):=sq 280 2 [a0 Cx,a1 ME] [r0 ti] F
abbrev nu:=(Bb×Int×Int)→Option Int
def x4 (L:Lp):nu:=λx=>
 ib x.1.1 x.2.1 λa=>ib x.1.1 x.2.2 λb=>q (a.1 != b.1) (some 0)<|q (a.2.1≥b.2.1) (some 0)<|q (x.2.2<x.2.1) (some 2)<|some 1
def nv:nu:=x4 std
def x5 (F:nu):=sq 333 3 [a0 Cx,a1 ti,a2 ti] [r0 ti] F
abbrev ny:=(Bb×Int×Int)→Option (Int×Int)
def x6 (L:Lp) (a:Qw) (b:nu):ny:=λx=>
 (a x.1).bind λc=>q (c != 0) (some (0,c))<|q (x.2.1≥0) (q (!(x.2.1≤A1 ((ln x.1.1)-1))) (some (0,2))<|q (x.2.2≥0) (q (!(x.2.2≤A1 ((ln x.1.1)-1))) (some (0,2))<|(b x).bind λd=>some (d,0))<|some (0,2))<|some (0,2)
def nz:ny:=x6 std Jt nv
def x7 (F:ny):=sq 281 3 [a0 Cx,a1 ti,a2 ti] [r0 ti,r1 ti] F
abbrev nA:=(Bb×List Int)→Option (Int×Int)
def x8 (L:Lp) (a:Qw) (b:eA) (c:ey):nA:=λx=>
 (a x.1).bind λd=>q (d != 0) (some (0,d))<|(b x.1).bind λe=>(L.run (λf:Int=>q (f<ln x.2) (ib x.2 f λg=>q (g<0) (dn (.done (0,1)))<|q (g≥ln x.1.1) (dn (.done (0,1)))<|q (f>0) (ib x.2 (A1 (f-1)) λh=>ib e h λi=>ib i g λj=>q (j==0) (dn (.done (0,1)))<|nx (A1 (f+1)))<|nx (A1 (f+1)))<|dx ()) 0).bind (AF λk:PUnit=>L.run (λl:Int×Int=>q (l.2<ln x.2) (ib x.2 l.2 λm=>q (l.2>0) (ib x.2 (A1 (l.2-1)) λn=>ib e n λo=>ib o m λp=>ib x.1.1 m λr=>(c (A1 (l.1+(A1 (p-1))),r.2.2.1,x.1.2)).bind λs=>q (s.2 != 0) (dn (0,s.2))<|nx (s.1,A1 (l.2+1)))<|ib x.1.1 m λt=>(c (l.1,t.2.2.1,x.1.2)).bind λu=>q (u.2 != 0) (dn (0,u.2))<|nx (u.1,A1 (l.2+1)))<|dn (l.1,0)) (0,0))
def nB:nA:=x8 std Jt Yh Ye
def x9 (F:nA):=sq 282 2 [a0 Cx,a1 li] [r0 ti,r1 ti] F
abbrev nC:=(Bb×BE)→Option Int
def xa (L:Lp) (a:nr) (b:ny) (c:nA) (d:ef):nC:=λx=>
 (a (x.1,x.2.1)).bind λe=>q (e != 0) (some e)<|(L.run (λf:Int=>q (f<ln x.1.1) (L.run (λg:Int=>q (g<ln x.1.1) ((b (x.1,f,g)).bind λh=>q (h.2 != 0) (dn (.done (.done h.2)))<|q (h.1>0) (ib x.2.1.2 f λi=>ib x.2.1.2 g λj=>q (A1 ((A1 (i+h.1))-1)>j) (dn (.done (.done 12)))<|nx (A1 (g+1)))<|nx (A1 (g+1)))<|dx (A1 (f+1))) 0)<|dx ()) 0).bind (AF λk:PUnit=>(c (x.1,x.2.2)).bind λl=>q (l.2 != 0) (some l.2)<|(d l.1).bind λm=>q (m.2 != 0) (some 17)<|q (m.1 != x.2.1.1) (some 17)<|some 0)
def Yq:nC:=xa std ns nz nB ej
def xb (F:nC):=sq 242 2 [a0 Cx,a1 AK] [r0 ti] F
abbrev nD:=(Ah×Ag×AA)→Option (Bool×AA)
def nE (L:Lp) (a:eS) (b:eP) (c:nC):nD:=λx=>
 (a x).bind λd=>q (!d.2.1) (some (false,d.2.2))<|(b (d.1,d.2.2)).bind λe=>q (!e.2.1) (some (true,e.2.2))<|q (ln x.1.2.2.2.2.2.1<x.2.1.2.2.1.1.1) (some (true,e.2.2))<|(c ((e.1,x.1.2.2.2.2.1),x.2.1.2.2.1)).bind λf=>some (f != 0,e.2.2)
def Vb:nD:=nE std Ju eQ Yq
def xc (F:nD):Nat×Be:=⟨172,3,[18],[(0,.ptr 0)],[a1 An,a2 AP,zc 0 0 A5,.cell 0 5 (.own A9 60),zc 0 6 (.sl li),.cell 0 7 (.own A3 80),zc 0 8 .bool,zc 0 9 Ae],[r0 .bool,zc 0 0 A5,.cell 0 5 (.own A9 60),zc 0 6 (.sl li),.cell 0 7 (.own A3 80),zc 0 8 .bool,zc 0 9 Ae],false,F⟩
abbrev T54:=(Ah×Ag×AA)→Option (Int×AA)
def B54 (L:Lp) (a:eL) (b:eN) (c:n7) (d:ng) (e:nl) (f:nD) (g:V9):T54:=λx=>
 q (x.2.1.1 != 0) (q (A1 ((A1 ((A1 ((A1 ((ln x.2.1.2.1)+(ln x.2.1.2.2.2.1)))+(ln x.2.1.2.2.1.1.2)))+(ln x.2.1.2.2.1.2)))+(ln x.2.1.2.2.2.2.1.2.1))>0) (some (1,x.2.2))<|some (0,x.2.2))<|q (x.1.1<1) (some (1,x.2.2))<|q (x.1.1>7) (some (1,x.2.2))<|(b (x.1,x.2.1.2.1,x.2.2)).bind λh=>q (!h.2.1) (some (A1 (0+2),h.2.2))<|(c (x.1,x.2.1,h.2.2)).bind λi=>q i.1 (some (A1 (1+2),i.2))<|(d (x.1,x.2.1,i.2)).bind λj=>q j.1 (some (A1 (2+2),j.2))<|(e (x.1,x.2.1,j.2)).bind λk=>q k.1 (some (A1 (3+2),k.2))<|(f (x.1,x.2.1,k.2)).bind λl=>q l.1 (some (A1 (4+2),l.2))<|q (x.1.1 != 4) (some (0,l.2))<|(a (x.1.2.2.2.2.2.2.1,l.2)).bind λm=>q (!m.2.2.1) (some (A1 (5+2),m.2.2.2))<|(g (m.1,x.2.1.2.1)).bind λn=>q (!n) (some (A1 (5+2),m.2.2.2))<|some (0,m.2.2.2)
def iA:T54:=B54 std V8 SD eO Va Qx Vb SE
def S54 (F:T54):Nat×Be:=⟨54,3,[18],[(0,.ptr 0)],[a1 An,a2 AP,zc 0 0 A5,.cell 0 5 (.own A9 60),zc 0 6 (.sl li),.cell 0 7 (.own A3 80),zc 0 8 .bool,zc 0 9 Ae],[r0 ti,zc 0 0 A5,.cell 0 5 (.own A9 60),zc 0 6 (.sl li),.cell 0 7 (.own A3 80),zc 0 8 .bool,zc 0 9 Ae],false,F⟩
abbrev T55:=(Ah×Ag×AA)→Option AA
def B55 (L:Lp) (a:eL) (b:eS) (c:eN) (d:Yo) (e:kW):T55:=λx=>
 (a (x.1.2.2.2.2.2.2.1,x.2.2)).bind λf=>(b (x.1,x.2.1,f.2.2.2)).bind λg=>(c (x.1,x.2.1.2.1,g.2.2)).bind λh=>(d x.1).bind λi=>q (room h.2.2.2.1 i.1) ((q (x.1.1==2) (q (room h.2.2.2.2.2.1 ([x.1.2.2.2.2.2.2.2.1])) (nx (h.2.2.2.2.2.1++([x.1.2.2.2.2.2.2.2.1]),h.2.2.2.2.2.2.1,h.2.2.2.2.2.2.2.2.2.2.2.2))<|none)<|q (x.1.1==7) (L.run (λj:Int=>q (j<ln h.2.2.2.2.2.1) (ib h.2.2.2.2.2.1 j λk=>q (((A7 h.2.2.2.2.2.1 j k).1)==x.1.2.2.2.2.2.2.2.2.1) (((e (h.2.2.2.2.2.1,j,A1 (j+1))).bind λl=>nx (l,h.2.2.2.2.2.2.1,h.2.2.2.2.2.2.2.2.2.2.2.2)).bind λz=>dn z)<|nx (A1 (j+1)))<|((e (h.2.2.2.2.2.1,(-1),A1 ((-1)+1))).bind λm=>nx (m,h.2.2.2.2.2.2.1,h.2.2.2.2.2.2.2.2.2.2.2.2)).bind λz=>dn z) 0)<|q (x.1.1==5) (nx (h.2.2.2.2.2.1,false,h.2.2.2.2.2.2.2.2.2.2.2.2))<|q (x.1.1==4) (q f.2.1 (nx (h.2.2.2.2.2.1,true,A1 (h.2.2.2.2.2.2.2.2.2.2.2.2+1)))<|nx (h.2.2.2.2.2.1,decide (A1 (h.2.2.2.2.2.2.2.2.2.2.2.2+1)≤h.2.2.2.2.2.2.2.2.2.1.1.1),A1 (h.2.2.2.2.2.2.2.2.2.2.2.2+1)))<|nx (h.2.2.2.2.2.1,h.2.2.2.2.2.2.1,h.2.2.2.2.2.2.2.2.2.2.2.2)).bind (AF λn:(List A0)×Bool×Int=>q g.2.1 (some (h.2.2.1,h.2.2.2.1++i.1,h.1,n.1,true,g.1,([],0),x.2.1.2.2.1,x.1.2.1,x.1.2.2.2.2.2.1,0))<|some (h.2.2.1,h.2.2.2.1++i.1,h.1,n.1,n.2.1,h.2.2.2.2.2.2.2.1,h.2.2.2.2.2.2.2.2.1,h.2.2.2.2.2.2.2.2.2.1,h.2.2.2.2.2.2.2.2.2.2.1,h.2.2.2.2.2.2.2.2.2.2.2.1,n.2.2)))<|none
def qy:T55:=B55 std V8 Ju SD Oy UZ
def S55 (F:T55):Nat×Be:=⟨55,3,[18],[(0,.ptr 0)],[a1 An,a2 AP,zc 0 0 A5,.cell 0 5 (.own A9 60),zc 0 6 (.sl li),.cell 0 7 (.own A3 80),zc 0 8 .bool,zc 0 9 Ae],[zc 0 0 A5,.cell 0 5 (.own A9 60),zc 0 6 (.sl li),.cell 0 7 (.own A3 80),zc 0 8 .bool,zc 0 9 Ae],false,F⟩
abbrev T8:=(A2×(List Ah)×List Ag)→Option ((Int×Int)×Bool)
def B8 (L:Lp) (a:u7) (b:T54) (c:T55):T8:=λx=>
 (a x.1).bind λd=>q (d != 0) (some ((0,0),false))<|q (Dh (ln x.1.1)) (L.run (λe:Int×(List Int)×(List Aa)×Int×Int×(List Int)×(List Int)×Int×(List Int)×Int×Bool×(List A0)×(List (List Int))×(List A6)×A2=>q (e.1<(min (ln x.2.1) (ln x.2.2))) (ib x.2.1 e.1 λf=>ib x.2.2 e.1 λg=>(b (f,g,e.2.2.2.2.2.2.2.2.2.2.2.2.2.2,e.2.2.2.2.2.2.2.2.2.2.2.2.2.1,e.2.2.2.2.2.2.2.2.2.2.2.2.1,e.2.2.2.2.2.2.2.2.2.2.2.1,e.2.2.2.2.2.2.2.2.2.2.1,e.2.1,(e.2.2.1,e.2.2.2.1),((e.2.2.2.2.1,e.2.2.2.2.2.1),e.2.2.2.2.2.2.1),e.2.2.2.2.2.2.2.1,e.2.2.2.2.2.2.2.2.1,e.2.2.2.2.2.2.2.2.2.1)).bind λh=>q (h.1>0) (dn ((e.1,h.1),true))<|ib x.2.2 e.1 λi=>q (i.1==0) (ib x.2.1 e.1 λj=>ib x.2.2 e.1 λk=>(c (j,k,h.2)).bind λl=>nx (A1 (e.1+1),l.2.2.2.2.2.1,l.2.2.2.2.2.2.1.1,l.2.2.2.2.2.2.1.2,l.2.2.2.2.2.2.2.1.1.1,l.2.2.2.2.2.2.2.1.1.2,l.2.2.2.2.2.2.2.1.2,l.2.2.2.2.2.2.2.2.1,l.2.2.2.2.2.2.2.2.2.1,l.2.2.2.2.2.2.2.2.2.2,l.2.2.2.2.1,l.2.2.2.1,l.2.2.1,l.2.1,l.1))<|nx (A1 (e.1+1),h.2.2.2.2.2.2.1,h.2.2.2.2.2.2.2.1.1,h.2.2.2.2.2.2.2.1.2,h.2.2.2.2.2.2.2.2.1.1.1,h.2.2.2.2.2.2.2.2.1.1.2,h.2.2.2.2.2.2.2.2.1.2,h.2.2.2.2.2.2.2.2.2.1,h.2.2.2.2.2.2.2.2.2.2.1,h.2.2.2.2.2.2.2.2.2.2.2,h.2.2.2.2.2.1,h.2.2.2.2.1,h.2.2.2.1,h.2.2.1,h.2.1))<|dn ((0,0),false)) (0,[],[],0,0,[],[],0,[],0,false,[],List.replicate (Int.toNat (ln x.1.1)) [],[],x.1))<|none
def F8:T8:=B8 std ua iA qy
def S8 (F:T8):=sq 8 3 [a0 A5,a1 (.sl An),a2 (.sl AP)] [r0 (.pair ti ti),r1 .bool] F
abbrev T9:=(A2×(List Ah)×List Ag)→Option ((List A6)×List (List Int))
def B9 (L:Lp) (a:u7) (b:kV) (c:zV) (d:T54) (e:T55):T9:=λx=>
 (a x.1).bind λf=>q (f != 0) (some ([],[]))<|q (Dh (ln x.1.1)) (L.run (λg:Int×(List Int)×(List Aa)×Int×Int×(List Int)×(List Int)×Int×(List Int)×Int×Bool×(List A0)×(List (List Int))×(List A6)×A2=>q (g.1<(min (ln x.2.1) (ln x.2.2))) (ib x.2.1 g.1 λh=>ib x.2.2 g.1 λi=>(d (h,i,g.2.2.2.2.2.2.2.2.2.2.2.2.2.2,g.2.2.2.2.2.2.2.2.2.2.2.2.2.1,g.2.2.2.2.2.2.2.2.2.2.2.2.1,g.2.2.2.2.2.2.2.2.2.2.2.1,g.2.2.2.2.2.2.2.2.2.2.1,g.2.1,(g.2.2.1,g.2.2.2.1),((g.2.2.2.2.1,g.2.2.2.2.2.1),g.2.2.2.2.2.2.1),g.2.2.2.2.2.2.2.1,g.2.2.2.2.2.2.2.2.1,g.2.2.2.2.2.2.2.2.2.1)).bind λj=>q (j.1>0) (((L.run (λk:(List (List Int))×Int=>q (k.2<ln j.2.2.2.1) (ib j.2.2.2.1 k.2 λl=>(b l).bind λm=>q (room k.1 [m]) (nx (k.1++[m],A1 (k.2+1)))<|none)<|dx k.1) ([],0)).bind (AF λn:List (List Int)=>(c j.2.2.1).bind λo=>some (o,n))).bind λp=>dn p)<|ib x.2.2 g.1 λr=>q (r.1==0) (ib x.2.1 g.1 λs=>ib x.2.2 g.1 λt=>(e (s,t,j.2)).bind λu=>nx (A1 (g.1+1),u.2.2.2.2.2.1,u.2.2.2.2.2.2.1.1,u.2.2.2.2.2.2.1.2,u.2.2.2.2.2.2.2.1.1.1,u.2.2.2.2.2.2.2.1.1.2,u.2.2.2.2.2.2.2.1.2,u.2.2.2.2.2.2.2.2.1,u.2.2.2.2.2.2.2.2.2.1,u.2.2.2.2.2.2.2.2.2.2,u.2.2.2.2.1,u.2.2.2.1,u.2.2.1,u.2.1,u.1))<|nx (A1 (g.1+1),j.2.2.2.2.2.2.1,j.2.2.2.2.2.2.2.1.1,j.2.2.2.2.2.2.2.1.2,j.2.2.2.2.2.2.2.2.1.1.1,j.2.2.2.2.2.2.2.2.1.1.2,j.2.2.2.2.2.2.2.2.1.2,j.2.2.2.2.2.2.2.2.2.1,j.2.2.2.2.2.2.2.2.2.2.1,j.2.2.2.2.2.2.2.2.2.2.2,j.2.2.2.2.2.1,j.2.2.2.2.1,j.2.2.2.1,j.2.2.1,j.2.1))<|((L.run (λv:(List (List Int))×Int=>q (v.2<ln g.2.2.2.2.2.2.2.2.2.2.2.2.1) (ib g.2.2.2.2.2.2.2.2.2.2.2.2.1 v.2 λw=>(b w).bind λy=>q (room v.1 [y]) (nx (v.1++[y],A1 (v.2+1)))<|none)<|dx v.1) ([],0)).bind (AF λz:List (List Int)=>(c g.2.2.2.2.2.2.2.2.2.2.2.2.2.1).bind λA=>some (A,z))).bind λB=>dn B) (0,[],[],0,0,[],[],0,[],0,false,[],List.replicate (Int.toNat (ln x.1.1)) [],[],x.1))<|none
def F9:T9:=B9 std ua W5 qx iA qy
def S9 (F:T9):=sp 9 3 [a0 A5,a1 (.sl An),a2 (.sl AP)] [r0 (.sl A9),r1 (.sl li)] F
abbrev T3:=List Int→Option Bool
def B3 (L:Lp) (a:T10) (b:T11) (c:T12) (d:T13) (e:T5) (f:T6) (g:T7) (h:T8) (i:T9):T3:=λx=>
 (e (true,x,0)).bind λj=>(f (j.1,24,j.2)).bind λk=>(g (j.1,k.1)).bind λl=>(h (j.1,k.1,l.2.1)).bind λm=>(i (j.1,k.1,l.2.1)).bind λn=>q (l.2.2 != 0) (some false)<|q m.2 (some false)<|(a (n.1,l.1.1)).bind λo=>q (!o) (some false)<|(b (n.2,l.1.2.1)).bind λp=>q (!p) (some false)<|(L.run (λr:(List Int)×Int=>q (r.2<ln n.1) (ib n.1 r.2 λs=>q (room r.1 [s.2.1]) (nx (r.1++[s.2.1],A1 (r.2+1)))<|none)<|dx r.1) ([],0)).bind (AF λt:List Int=>(c (j.1.1,t,n.2)).bind λu=>q u ((d ()).bind λv=>some v)<|some false)
def F3:T3:=B3 std F10 F11 F12 F13 F5 F6 F7 F8 F9
def S3 (F:T3):=sq 3 1 [a0 li] [r0 .bool] F
end
end Go.T
