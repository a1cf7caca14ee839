/- Part G of the proof of TopConserved. No condition. -/
import Derived.Test.YtmihkgopplkcjaaGreatDoorProg
import Derived.Shelf.RegionOpenPlain
import Derived.WalkKit
import Derived.Deep.LoopGhost
import Derived.Deep.RegionLaw
import Derived.Lib.Walk
import Derived.Sort.WalkB12
import Derived.Lib.SliceRun
import Derived.Shelf.SlSortCmp.NoneTotal
import Derived.Shelf.Sort.Plain
import Derived.Shelf.SlLaysF
import Derived.Shelf.Lays2
import Derived.Lib.Small
import Derived.Sort.Grow
import Derived.Shelf.Slices.In.SortNone
import Derived.Test.YtmihkgopplkcjaaGreatDoorE
set_option linter.all false
set_option maxRecDepth 1000000
set_option maxHeartbeats 0
namespace Go.T
open Go Go.V Go.Proofs Go.Shelf Go.RowKit Go.Lib Go.Sort
section
theorem Ej:Tryz.prog.follows .mixedOrders=true:=by kernel_rfl
variable {a:Act}
theorem Z1 {P:Program}{o:Oper}{w:World}{K:Act→World→Prop}{Q:Exit→Act→World→Prop}(s x:Operand)(t:TypeId)(ho:o.op=.call { callee:=.builtin .append,args:=#[s,x],argTypes:=#[t,t] })
  {A E v:Value}{B:World}(hs:a.eval s=A)(G:a.eval x=E)(hr:(Builtin.append_ #[t,t] o.type #[A,E]).run P w=.ok v B)(h:K (a.put o.dst v) B):Oper.wp P o a w K Q:=by
 unfold Oper.wp execOp;simp only [ho,resolve,invoke,builtin,Sem.run_bind,Sem.run_pure,Result.andThen_ok,List.map_toArray,M1X,M3H,hs,G,hr];exact h
theorem Ca {P:Program}{ops:Array Oper}{A:List Oper}{o:Oper}{w:World}{Q:Exit→Act→World→Prop}(I:o.guard=none)(s x:Operand)(t:TypeId)(ho:o.op=.call { callee:=.builtin .append,args:=#[s,x],argTypes:=#[t,t] })
  {B G v:Value}{E:World}(hs:a.eval s=B)(J:a.eval x=G)(hr:(Builtin.append_ #[t,t] o.type #[B,G]).run P w=.ok v E)(h:wpList P ops Q A (a.put o.dst v) E):wpList P ops Q (o::A) a w:=
 wpList_plain I λ_ H=>Z1 s x t ho hs J hr (H _ _ h)
def J4 (g ts T:Nat):Prop:=∀ w:World,(∀ c,Calls Tryz.prog g #[.slice none 0 c] w λe w'=>e=.returned (.slice none 0 0)∧w'=w)∧
 ∀ (A:World) (ad:Addr) (n c:Nat) (v:Value),(Builtin.append_ #[ts,ts] ts #[.slice (some ⟨w.heap.size,0,none⟩) 0 0,.slice (some ad) n c]).run Tryz.prog (w.alloc (.cells #[] T (0,0)))=.ok v A→
  Calls Tryz.prog g #[.slice (some ad) n c] w λe w'=>e=.returned v∧w'=A
theorem yJ:J4 26 22 3:=λw=>by
 have A:=Ej;constructor
 ·intro c;have hn:=λw=>Go.Lib.run_eql_slice_nil (P:=Tryz.prog) w 22 3 none 0 c 0 0 Tryz.underlying22
  go_enter Tryz.func26,Tryz.ntmps26
  go_wp2
  go_ret
  exact ⟨rfl,rfl⟩
 ·intro B ad n c v h;have hn:=λw=>Go.Lib.run_eql_slice_nil (P:=Tryz.prog) w 22 3 (some ad) n c 0 0 Tryz.underlying22
  go_enter Tryz.func26,Tryz.ntmps26
  go_wp2_with (at_builtin;refine Ca rfl _ _ 22 rfl rfl rfl h ?_)
  go_ret
  exact ⟨rfl,rfl⟩
theorem M38:J4 27 33 60:=λw=>by
 have A:=Ej;constructor
 ·intro c;have hn:=λw=>Go.Lib.run_eql_slice_nil (P:=Tryz.prog) w 33 60 none 0 c 0 0 Tryz.underlying33
  go_enter Tryz.func27,Tryz.ntmps27
  go_wp2
  go_ret
  exact ⟨rfl,rfl⟩
 ·intro B ad n c v h;have hn:=λw=>Go.Lib.run_eql_slice_nil (P:=Tryz.prog) w 33 60 (some ad) n c 0 0 Tryz.underlying33
  go_enter Tryz.func27,Tryz.ntmps27
  go_wp2_with (at_builtin;refine Ca rfl _ _ 33 rfl rfl rfl h ?_)
  go_ret
  exact ⟨rfl,rfl⟩
theorem M39:J4 92 36 157:=λw=>by
 have A:=Ej;constructor
 ·intro c;have hn:=λw=>Go.Lib.run_eql_slice_nil (P:=Tryz.prog) w 36 157 none 0 c 0 0 Tryz.underlying36
  go_enter Tryz.func92,Tryz.ntmps92
  go_wp2
  go_ret
  exact ⟨rfl,rfl⟩
 ·intro B ad n c v h;have hn:=λw=>Go.Lib.run_eql_slice_nil (P:=Tryz.prog) w 36 157 (some ad) n c 0 0 Tryz.underlying36
  go_enter Tryz.func92,Tryz.ntmps92
  go_wp2_with (at_builtin;refine Ca rfl _ _ 36 rfl rfl rfl h ?_)
  go_ret
  exact ⟨rfl,rfl⟩
theorem yK:J4 137 78 9:=λw=>by
 have A:=Ej;constructor
 ·intro c;have hn:=λw=>Go.Lib.run_eql_slice_nil (P:=Tryz.prog) w 78 9 none 0 c 0 0 Tryz.underlying78
  go_enter Tryz.func137,Tryz.ntmps137
  go_wp2
  go_ret
  exact ⟨rfl,rfl⟩
 ·intro B ad n c v h;have hn:=λw=>Go.Lib.run_eql_slice_nil (P:=Tryz.prog) w 78 9 (some ad) n c 0 0 Tryz.underlying78
  go_enter Tryz.func137,Tryz.ntmps137
  go_wp2_with (at_builtin;refine Ca rfl _ _ 78 rfl rfl rfl h ?_)
  go_ret
  exact ⟨rfl,rfl⟩
end
end Go.T
namespace Go.T
open Go Go.V Go.Proofs
section
abbrev Rows (w:World) (B:List Nat) (a:Option Addr) (c:Nat) (d:List (List Int)):Prop:=OwnR (AZ .i64) 3 22 w B a c d none
variable {w:World}{g c i:Nat}
theorem Rp {α:Type}{e:Enc α}{T:TypeId}{M:List Nat}{xs:List α}{y:α}{v:Value}(h:OwnS e T w M (some ⟨g,0,none⟩) c xs)(hn:e.n=1)(hp:∀ (w w':World) cs x,e.R w M cs x→e.R w' M cs x)(hR:e.R w M [v] y) :
  OwnS e T (w.setCell ⟨g,i,none⟩ v) M (some ⟨g,0,none⟩) c (xs.set i y)∧Ev [g] w (w.setCell ⟨g,i,none⟩ v):=by
 rcases h with ⟨h,_,_⟩|⟨U,I,J,hg,h1,h2,h3,G⟩;cases h;cases J;have O:(w.setCell ⟨g,i,none⟩ v).heap[g]? = some (.cells (I.setIfInBounds i v) T (0,0)):=by simp [World.setCell,M2l,hg]
 refine ⟨.inr ⟨g,_,rfl,O,by simpa using h1,h2,by simpa using h3,λk x A=>?_⟩,⟨rfl,rfl,rfl,by simp [World.setCell],λk hk hm=>?_⟩⟩;rw [hn] at G ⊢;rw [hn,M29] at h3;rw [M22] at A
 split at A;rename_i E;subst E;split at A;cases A;refine ⟨[v],hp _ _ _ _ hR,λm u B=>?_⟩;cases m with
 | zero=>
  cases B;rw [M29,M1M,Array.getElem?_setIfInBounds_self_of_lt (by omega)]
 | succ m=>simp at B
 cases A;rename_i E;obtain ⟨cs,H,q2⟩:=G k x A;have hl:cs.length=1:=by rw [←hn];exact e.len H
 refine ⟨cs,hp _ _ _ _ H,λm u B=>?_⟩;have hm:=(M09.1 B).1;rw [M2z (by omega)];exact q2 m u B;have:g≠k:=λe=>hm (by simp [e])
 simp [World.setCell,M2l,this]
variable {B:List Nat}{x:List Int}
theorem BY{a:Option Addr}{d:List (List Int)}(h:Rows w B a c d)(H:d[i]? = some x) :
  ∃ g A G,a=some ⟨g,0,none⟩∧w.cell? ⟨g,i,none⟩=some (.slice A x.length G)∧w.frozen? ⟨g,i,none⟩=false∧OwnS (AZ .i64) 3 w [] A G x∧g∈B∧(∀ b∈Av A,b∈B)∧g∉Av A:=by
 obtain ⟨hs,h1,h2,h3,O,h5⟩:=h;have E:i<hs.length:=by rw [h2];exact (M09.1 H).1
 obtain ⟨Y,Z,I⟩:=O i hs[i] x (M00 E) H (by simp);rcases h1 with ⟨_,_,e⟩|⟨g,ab,U,hg,q1,q2,q3,q4⟩
 rw [e] at E;simp at E
 subst U;obtain ⟨cs,r1,r2⟩:=q4 i hs[i] (M00 E);have r1:cs=[.slice hs[i].1 hs[i].2.1 hs[i].2.2]:=r1;have:=r2 0 _ (by rw [r1];rfl);have J:PU.n=1:=rfl;rw [J,M29,M1M,Z] at this;exact ⟨g,hs[i].1,hs[i].2.2,rfl,by rw [Af hg];exact this,by simp [World.frozen?,hg],Y,h3 g (by simp [Av]),λb hb=>(I b hb).1,λhb=>(I g hb).2 (by simp [Av])⟩
theorem HR {w0:World}{ci c':Nat}{G a':Option Addr}{d:List (List Int)}{ys:List Int}(h:Rows w0 B (some ⟨g,0,none⟩) c d)(hx:d[i]? = some x)(U:w0.cell? ⟨g,i,none⟩=some (.slice G x.length ci))(Y:Ev (Av G) w0 w)
  (hy:OwnS (AZ .i64) 3 w [] a' c' ys)(hn:∀ b∈Av a',b∈Av G∨w0.heap.size≤b) :
  Rows (w.setCell ⟨g,i,none⟩ (.slice a' ys.length c')) (Av a'++B) (some ⟨g,0,none⟩) c (d.set i ys)∧Ev (g::Av G) w0 (w.setCell ⟨g,i,none⟩ (.slice a' ys.length c')):=by
 obtain ⟨g',au,av,e1,ag,_,_,ay,ax,ah⟩:=BY h hx;cases e1;rw [U] at ag;obtain ⟨rfl,_,rfl⟩:=Value.slice.inj (M1x ag);obtain ⟨hs,h1,h2,h3,O,h5⟩:=h;have H:i<hs.length:=by rw [h2];exact (M09.1 hx).1
 have az:g<w0.heap.size:=h1.lt g (by simp [Av]);have ao:hs[i].1=G:=by
  rcases h1 with ⟨e,_,_⟩|⟨g',aw,ha,hg,J,q2,I,q4⟩;cases e;cases ha;obtain ⟨cs,r1,r2⟩:=q4 i hs[i] (M00 H);have r1:cs=[.slice hs[i].1 hs[i].2.1 hs[i].2.2]:=r1;have:=r2 0 _ (by rw [r1];rfl);have en:PU.n=1:=rfl;rw [en,M29,M1M] at this;rw [Af hg,this] at U;exact (Value.slice.inj (M1x U)).1
 have aA:=O i hs[i] x (M00 H) hx (by simp);have o1:OwnS PU 22 w [] (some ⟨g,0,none⟩) c hs:=(h1.evp J2 Y λb hb=>by simp only [Av,M19] at hb;rw [hb];exact ah)
 obtain ⟨p1,p2⟩:=Rp (i:=i) (y:=(a',ys.length,c')) (v:=.slice a' ys.length c') o1 rfl (λ_ _ _ _ h=>h) rfl;have af:∀ b∈Av a',b≠g:=λb hb e=>by
  subst e;rcases hn b hb with h|h
  exact ah h;omega
 have hrow:∀ (j:Nat) (k:Option Addr×Nat×Nat) (z:List Int),j≠i→hs[j]? = some k→d[j]? = some z→OwnS (AZ .i64) 3 (w.setCell ⟨g,i,none⟩ (.slice a' ys.length c')) [] k.1 k.2.2 z∧(∀ b∈Av k.1,b∉Av a'):=λj k z hj hk A=>by
  obtain ⟨J,q2,I⟩:=O j k z hk A (by simp);have ap:∀ b∈Av k.1,b∉Av G:=λb hb E=>h5 j i k hs[i] hk (M00 H) hj (by simp) (by simp) b hb (by rw [ao];exact E)
  refine ⟨(J.evp (M':=[]) (λ_ _ _ _ _ _ h=>h) Y ap).evp (λ_ _ _ _ _ _ h=>h) p2 λb hb=>?_,λb hb E=>?_⟩;simp only [M19];exact λe=>(I b hb).2 (by simp [Av,e])
  rcases hn b E with h|h;exact ap b hb h;have:=J.lt b hb;omega
 refine ⟨⟨hs.set i (a',ys.length,c'),p1,by simpa using h2,λb hb=>M1z _ (h3 b hb),λj k z hk A _=>?_,λj l k m hk hm Z _ _ b hb E=>?_⟩,Y.sub (λb hb=>M1c _ hb) |>.then p2 λb hb=>.inl (by simp only [M19] at hb;simp [hb])⟩;rw [M22] at hk A;by_cases e:i=j;subst e;rw [M1d rfl,M1d H] at hk;rw [M1d rfl,M1d (by omega)] at A;cases hk;cases A;refine ⟨hy.evp (λ_ _ _ _ _ _ h=>h) p2 λb hb=>?_,rfl,λb hb=>⟨M1T _ hb,λe=>?_⟩⟩
 simp only [M19];exact af b hb;simp only [Av,M19] at e;exact af b hb e
 rw [M1e e] at hk A;obtain ⟨J,q2,I⟩:=O j k z hk A (by simp);exact ⟨(hrow j k z (λh=>e h.symm) hk A).1,q2,λb hb=>⟨M1z _ (I b hb).1,(I b hb).2⟩⟩
 rw [M22] at hk hm;have dz:∀ j,j<hs.length→∃ z,d[j]? = some z:=λj hj=>⟨_,M00 (by omega)⟩
 by_cases e:i=j;subst e;rw [M1d rfl,M1d H] at hk;rw [M1e Z] at hm;cases hk;obtain ⟨z,A⟩:=dz l (M09.1 hm).1;exact (hrow l m z (λh=>Z h.symm) hm A).2 b E hb
 rw [M1e e] at hk;by_cases e2:i=l;subst e2;rw [M1d rfl,M1d H] at hm;cases hm;obtain ⟨z,A⟩:=dz j (M09.1 hk).1;exact (hrow j k z (λh=>e h.symm) hk A).2 b hb E
 rw [M1e e2] at hm;exact h5 j l k m hk hm Z (by simp) (by simp) b hb E
theorem Ua{v:Value}(h:w.cell? ⟨g,i,none⟩=some v)(hf:w.frozen? ⟨g,i,none⟩=false):w.setCell ⟨g,i,none⟩ v=w:=by
 have E:w.heap.modify g (fun|.cells c A B=>.cells (c.setIfInBounds i v) A B|o=>o)=w.heap:=by
  refine Array.ext_getElem? λk=>?_
  rw [M2l];split
  ·rename_i e;subst e;cases hg:w.heap[g]? with
   | none=>rfl
   | some o=>
    cases o with
    | cells cs T fz=>
     rw [Af hg] at h;have:cs.setIfInBounds i v=cs:=by
      refine Array.ext_getElem? λk=>?_
      rw [M3P];split
      ·rename_i e;subst e;rw [h];split <;> simp_all
      rfl
     simp [this]
    | _=>rfl
  rfl
 exact M1t (λh=>({ w with heap:=h }:World)) E
theorem Z2{r G j:Nat}{v:Int}{d:List (List Int)}(h:Rows w B (some ⟨g,0,none⟩) c d)(I:d[i]? = some x)(A:w.cell? ⟨g,i,none⟩=some (.slice (some ⟨r,0,none⟩) x.length G)) :
  Rows (w.setCell ⟨r,j,none⟩ (.int .i64 v)) (r::B) (some ⟨g,0,none⟩) c (d.set i (x.set j v))∧Ev [r] w (w.setCell ⟨r,j,none⟩ (.int .i64 v))∧r∈B:=by
 obtain ⟨g',ab,ac,O,H,hf,ho,ae,U,Y⟩:=BY h I;cases O;rw [A] at H;obtain ⟨rfl,_,rfl⟩:=Value.slice.inj (M1x H);obtain ⟨p1,E⟩:=Rp (i:=j) (y:=v) (v:=.int .i64 v) ho rfl (λ_ _ _ _ h=>h) rfl;have Z:g≠r:=λe=>Y (by simp [Av,e])
 have hgl:g<w.heap.size:=by
  rcases M1V g w.heap.size with h'|h';exact h';simp [World.cell?,M28 h'] at A
 obtain ⟨J,_⟩:=HR h I A E p1 (λb hb=>.inl hb);have hb:=E.block g hgl (by simp [Z]);rw [Ua (v:=.slice (some ⟨r,0,none⟩) (x.set j v).length G) (by rw [M2x];rw [←A];simp [World.cell?,hb]) (by rw [←hf];simp [World.frozen?,hb])] at J;exact ⟨J,E,U r (by simp [Av])⟩
end
end Go.T
namespace Go.T
open Go Go.Proofs
def XT:Go.Shelf.Ren:=⟨fun | 189=>219 | 125=>262 | 257=>261 | 128=>303 | 129=>304 | 294=>294 | 295=>295 | 296=>296 | 297=>297 | 298=>298 | 299=>299 | 216=>300 | 300=>301 | 301=>302 | 328=>341 | 329=>342 | 330=>343 | 331=>344 | 332=>345 | 215=>267 | 343=>354 | n=>n,fun | 28=>22 | 3=>3 | 46=>139 | 0=>0 | 51=>358 | 53=>360 | 4=>4 | 183=>352 | 182=>351 | 131=>246 | 5=>5 | 9=>9 | 218=>377 | 222=>381 | 228=>386 | 229=>151 | n=>n,fun | n=>n⟩
theorem yW:Lays.n189 Tryz.prog XT where
 mixed:=by kernel_rfl
 f125:=Tryz.func262.trans (M1t some (by kernel_rfl))
 f128:=Tryz.func303.trans (M1t some (by kernel_rfl))
 f129:=Tryz.func304.trans (M1t some (by kernel_rfl))
 f189:=Tryz.func219.trans (M1t some (by kernel_rfl))
 f215:=Tryz.func267.trans (M1t some (by kernel_rfl))
 f216:=Tryz.func300.trans (M1t some (by kernel_rfl))
 f257:=Tryz.func261.trans (M1t some (by kernel_rfl))
 f294:=Tryz.func294.trans (M1t some (by kernel_rfl))
 f295:=Tryz.func295.trans (M1t some (by kernel_rfl))
 f296:=Tryz.func296.trans (M1t some (by kernel_rfl))
 f297:=Tryz.func297.trans (M1t some (by kernel_rfl))
 f298:=Tryz.func298.trans (M1t some (by kernel_rfl))
 f299:=Tryz.func299.trans (M1t some (by kernel_rfl))
 f300:=Tryz.func301.trans (M1t some (by kernel_rfl))
 f301:=Tryz.func302.trans (M1t some (by kernel_rfl))
 f328:=Tryz.func341.trans (M1t some (by kernel_rfl))
 f329:=Tryz.func342.trans (M1t some (by kernel_rfl))
 f330:=Tryz.func343.trans (M1t some (by kernel_rfl))
 f331:=Tryz.func344.trans (M1t some (by kernel_rfl))
 f332:=Tryz.func345.trans (M1t some (by kernel_rfl))
 f343:=Tryz.func354.trans (M1t some (by kernel_rfl))
 t0:=Tryz.underlying0
 a0:=Tryz.isAgg0
 z0:=Tryz.sizeOf0
 v0:=Tryz.zeroValue0
 t3:=Tryz.underlying3
 a3:=Tryz.isAgg3
 z3:=Tryz.sizeOf3
 v3:=Tryz.zeroValue3
 t4:=Tryz.underlying4
 a4:=Tryz.isAgg4
 z4:=Tryz.sizeOf4
 v4:=Tryz.zeroValue4
 t5:=Tryz.underlying5
 a5:=Tryz.isAgg5
 z5:=Tryz.sizeOf5
 v5:=Tryz.zeroValue5
 t9:=Tryz.underlying9
 a9:=Tryz.isAgg9
 z9:=Tryz.sizeOf9
 v9:=Tryz.zeroValue9
 t28:=Tryz.underlying22
 a28:=Tryz.isAgg22
 z28:=Tryz.sizeOf22
 v28:=Tryz.zeroValue22
 t46:=Tryz.underlying139
 a46:=Tryz.isAgg139
 z46:=Tryz.sizeOf139
 v46:=Tryz.zeroValue139
 t51:=Tryz.underlying358
 a51:=Tryz.isAgg358
 z51:=Tryz.sizeOf358
 v51:=Tryz.zeroValue358
 t53:=Tryz.underlying360
 a53:=Tryz.isAgg360
 z53:=Tryz.sizeOf360
 v53:=Tryz.zeroValue360
 t131:=Tryz.underlying246
 a131:=Tryz.isAgg246
 z131:=Tryz.sizeOf246
 v131:=Tryz.zeroValue246
 t182:=Tryz.underlying351
 a182:=Tryz.isAgg351
 z182:=Tryz.sizeOf351
 v182:=Tryz.zeroValue351
 t183:=Tryz.underlying352
 a183:=Tryz.isAgg352
 z183:=Tryz.sizeOf352
 v183:=Tryz.zeroValue352
 t218:=Tryz.underlying377
 a218:=Tryz.isAgg377
 z218:=Tryz.sizeOf377
 v218:=Tryz.zeroValue377
 t222:=Tryz.underlying381
 a222:=Tryz.isAgg381
 z222:=Tryz.sizeOf381
 v222:=Tryz.zeroValue381
 t228:=Tryz.underlying386
 a228:=Tryz.isAgg386
 z228:=Tryz.sizeOf386
 v228:=Tryz.zeroValue386
 t229:=Tryz.underlying151
 a229:=Tryz.isAgg151
 z229:=Tryz.sizeOf151
 v229:=Tryz.zeroValue151
def UP:Go.Shelf.Ren:=⟨fun | 6=>339 | 15=>262 | 14=>353 | 28=>303 | 29=>304 | 20=>356 | 21=>357 | 22=>358 | 23=>359 | 24=>360 | 25=>361 | 26=>362 | 27=>363 | 46=>364 | 47=>342 | 48=>343 | 49=>365 | 50=>366 | 57=>367 | n=>n,fun | 22=>22 | 24=>3 | 25=>302 | 3=>3 | 39=>139 | 0=>0 | 53=>358 | 55=>360 | 4=>4 | 46=>352 | 45=>351 | 50=>246 | 5=>5 | 9=>9 | 66=>377 | 70=>381 | 76=>386 | 77=>151 | n=>n,fun | n=>n⟩
theorem rx:SlLaysF.n6 Tryz.prog UP where
 mixed:=by kernel_rfl
 f6 := ⟨ "slices.SortFunc[[]int,int]", by decide, Tryz.func339.trans (M1t some (by kernel_rfl))⟩
 f14 := ⟨ "slices.pdqsortCmpFunc[int]", by decide, Tryz.func353.trans (M1t some (by kernel_rfl))⟩
 f15:=Tryz.func262.trans (M1t some (by kernel_rfl))
 f20 := ⟨ "slices.insertionSortCmpFunc[int]", by decide, Tryz.func356.trans (M1t some (by kernel_rfl))⟩
 f21 := ⟨ "slices.heapSortCmpFunc[int]", by decide, Tryz.func357.trans (M1t some (by kernel_rfl))⟩
 f22 := ⟨ "slices.breakPatternsCmpFunc[int]", by decide, Tryz.func358.trans (M1t some (by kernel_rfl))⟩
 f23 := ⟨ "slices.choosePivotCmpFunc[int]", by decide, Tryz.func359.trans (M1t some (by kernel_rfl))⟩
 f24 := ⟨ "slices.reverseRangeCmpFunc[int]", by decide, Tryz.func360.trans (M1t some (by kernel_rfl))⟩
 f25 := ⟨ "slices.partialInsertionSortCmpFunc[int]", by decide, Tryz.func361.trans (M1t some (by kernel_rfl))⟩
 f26 := ⟨ "slices.partitionEqualCmpFunc[int]", by decide, Tryz.func362.trans (M1t some (by kernel_rfl))⟩
 f27 := ⟨ "slices.partitionCmpFunc[int]", by decide, Tryz.func363.trans (M1t some (by kernel_rfl))⟩
 f28:=Tryz.func303.trans (M1t some (by kernel_rfl))
 f29:=Tryz.func304.trans (M1t some (by kernel_rfl))
 f46 := ⟨ "slices.siftDownCmpFunc[int]", by decide, Tryz.func364.trans (M1t some (by kernel_rfl))⟩
 f47:=Tryz.func342.trans (M1t some (by kernel_rfl))
 f48:=Tryz.func343.trans (M1t some (by kernel_rfl))
 f49 := ⟨ "slices.medianAdjacentCmpFunc[int]", by decide, Tryz.func365.trans (M1t some (by kernel_rfl))⟩
 f50 := ⟨ "slices.medianCmpFunc[int]", by decide, Tryz.func366.trans (M1t some (by kernel_rfl))⟩
 f57 := ⟨ "slices.order2CmpFunc[int]", by decide, Tryz.func367.trans (M1t some (by kernel_rfl))⟩
 t0:=Tryz.underlying0
 a0:=Tryz.isAgg0
 z0:=Tryz.sizeOf0
 v0:=Tryz.zeroValue0
 t3:=Tryz.underlying3
 a3:=Tryz.isAgg3
 z3:=Tryz.sizeOf3
 v3:=Tryz.zeroValue3
 t4:=Tryz.underlying4
 a4:=Tryz.isAgg4
 z4:=Tryz.sizeOf4
 v4:=Tryz.zeroValue4
 t5:=Tryz.underlying5
 a5:=Tryz.isAgg5
 z5:=Tryz.sizeOf5
 v5:=Tryz.zeroValue5
 t9:=Tryz.underlying9
 a9:=Tryz.isAgg9
 z9:=Tryz.sizeOf9
 v9:=Tryz.zeroValue9
 t22:=Tryz.underlying22
 a22:=Tryz.isAgg22
 z22:=Tryz.sizeOf22
 v22:=Tryz.zeroValue22
 a24:=Tryz.isAgg3
 z24:=Tryz.sizeOf3
 t25:=Tryz.underlying302
 a25:=Tryz.isAgg302
 z25:=Tryz.sizeOf302
 v25:=Tryz.zeroValue302
 t39:=Tryz.underlying139
 a39:=Tryz.isAgg139
 z39:=Tryz.sizeOf139
 v39:=Tryz.zeroValue139
 t45:=Tryz.underlying351
 a45:=Tryz.isAgg351
 z45:=Tryz.sizeOf351
 v45:=Tryz.zeroValue351
 t46:=Tryz.underlying352
 a46:=Tryz.isAgg352
 z46:=Tryz.sizeOf352
 v46:=Tryz.zeroValue352
 t50:=Tryz.underlying246
 a50:=Tryz.isAgg246
 z50:=Tryz.sizeOf246
 v50:=Tryz.zeroValue246
 t53:=Tryz.underlying358
 a53:=Tryz.isAgg358
 z53:=Tryz.sizeOf358
 v53:=Tryz.zeroValue358
 t55:=Tryz.underlying360
 a55:=Tryz.isAgg360
 z55:=Tryz.sizeOf360
 v55:=Tryz.zeroValue360
 t66:=Tryz.underlying377
 a66:=Tryz.isAgg377
 z66:=Tryz.sizeOf377
 v66:=Tryz.zeroValue377
 t70:=Tryz.underlying381
 a70:=Tryz.isAgg381
 z70:=Tryz.sizeOf381
 v70:=Tryz.zeroValue381
 t76:=Tryz.underlying386
 a76:=Tryz.isAgg386
 z76:=Tryz.sizeOf386
 v76:=Tryz.zeroValue386
 t77:=Tryz.underlying151
 a77:=Tryz.isAgg151
 z77:=Tryz.sizeOf151
 v77:=Tryz.zeroValue151
def UQ:Go.Shelf.Ren:=⟨fun | 6=>223 | 15=>262 | 14=>266 | 28=>303 | 29=>304 | 20=>308 | 21=>309 | 22=>310 | 23=>311 | 24=>312 | 25=>313 | 26=>314 | 27=>315 | 46=>346 | 47=>342 | 48=>343 | 49=>347 | 50=>348 | 57=>355 | n=>n,fun | 22=>87 | 24=>170 | 25=>303 | 3=>3 | 39=>139 | 0=>0 | 53=>358 | 55=>360 | 4=>4 | 46=>352 | 45=>351 | 50=>246 | 5=>5 | 9=>9 | 66=>377 | 70=>381 | 76=>386 | 77=>151 | n=>n,fun | n=>n⟩
theorem ry:SlLaysF0.n6 Tryz.prog UQ where
 mixed:=by kernel_rfl
 f6 := ⟨ "slices.SortFunc[[]humpyard/api.Pull,humpyard/api.Pull]", by decide, Tryz.func223.trans (M1t some (by kernel_rfl))⟩
 f14 := ⟨ "slices.pdqsortCmpFunc[humpyard/api.Pull]", by decide, Tryz.func266.trans (M1t some (by kernel_rfl))⟩
 f15:=Tryz.func262.trans (M1t some (by kernel_rfl))
 f20 := ⟨ "slices.insertionSortCmpFunc[humpyard/api.Pull]", by decide, Tryz.func308.trans (M1t some (by kernel_rfl))⟩
 f21 := ⟨ "slices.heapSortCmpFunc[humpyard/api.Pull]", by decide, Tryz.func309.trans (M1t some (by kernel_rfl))⟩
 f22 := ⟨ "slices.breakPatternsCmpFunc[humpyard/api.Pull]", by decide, Tryz.func310.trans (M1t some (by kernel_rfl))⟩
 f23 := ⟨ "slices.choosePivotCmpFunc[humpyard/api.Pull]", by decide, Tryz.func311.trans (M1t some (by kernel_rfl))⟩
 f24 := ⟨ "slices.reverseRangeCmpFunc[humpyard/api.Pull]", by decide, Tryz.func312.trans (M1t some (by kernel_rfl))⟩
 f25 := ⟨ "slices.partialInsertionSortCmpFunc[humpyard/api.Pull]", by decide, Tryz.func313.trans (M1t some (by kernel_rfl))⟩
 f26 := ⟨ "slices.partitionEqualCmpFunc[humpyard/api.Pull]", by decide, Tryz.func314.trans (M1t some (by kernel_rfl))⟩
 f27 := ⟨ "slices.partitionCmpFunc[humpyard/api.Pull]", by decide, Tryz.func315.trans (M1t some (by kernel_rfl))⟩
 f28:=Tryz.func303.trans (M1t some (by kernel_rfl))
 f29:=Tryz.func304.trans (M1t some (by kernel_rfl))
 f46 := ⟨ "slices.siftDownCmpFunc[humpyard/api.Pull]", by decide, Tryz.func346.trans (M1t some (by kernel_rfl))⟩
 f47:=Tryz.func342.trans (M1t some (by kernel_rfl))
 f48:=Tryz.func343.trans (M1t some (by kernel_rfl))
 f49 := ⟨ "slices.medianAdjacentCmpFunc[humpyard/api.Pull]", by decide, Tryz.func347.trans (M1t some (by kernel_rfl))⟩
 f50 := ⟨ "slices.medianCmpFunc[humpyard/api.Pull]", by decide, Tryz.func348.trans (M1t some (by kernel_rfl))⟩
 f57 := ⟨ "slices.order2CmpFunc[humpyard/api.Pull]", by decide, Tryz.func355.trans (M1t some (by kernel_rfl))⟩
 t0:=Tryz.underlying0
 a0:=Tryz.isAgg0
 z0:=Tryz.sizeOf0
 v0:=Tryz.zeroValue0
 t3:=Tryz.underlying3
 a3:=Tryz.isAgg3
 z3:=Tryz.sizeOf3
 v3:=Tryz.zeroValue3
 t4:=Tryz.underlying4
 a4:=Tryz.isAgg4
 z4:=Tryz.sizeOf4
 v4:=Tryz.zeroValue4
 t5:=Tryz.underlying5
 a5:=Tryz.isAgg5
 z5:=Tryz.sizeOf5
 v5:=Tryz.zeroValue5
 t9:=Tryz.underlying9
 a9:=Tryz.isAgg9
 z9:=Tryz.sizeOf9
 v9:=Tryz.zeroValue9
 t22:=Tryz.underlying87
 a22:=Tryz.isAgg87
 z22:=Tryz.sizeOf87
 v22:=Tryz.zeroValue87
 t25:=Tryz.underlying303
 a25:=Tryz.isAgg303
 z25:=Tryz.sizeOf303
 v25:=Tryz.zeroValue303
 t39:=Tryz.underlying139
 a39:=Tryz.isAgg139
 z39:=Tryz.sizeOf139
 v39:=Tryz.zeroValue139
 t45:=Tryz.underlying351
 a45:=Tryz.isAgg351
 z45:=Tryz.sizeOf351
 v45:=Tryz.zeroValue351
 t46:=Tryz.underlying352
 a46:=Tryz.isAgg352
 z46:=Tryz.sizeOf352
 v46:=Tryz.zeroValue352
 t50:=Tryz.underlying246
 a50:=Tryz.isAgg246
 z50:=Tryz.sizeOf246
 v50:=Tryz.zeroValue246
 t53:=Tryz.underlying358
 a53:=Tryz.isAgg358
 z53:=Tryz.sizeOf358
 v53:=Tryz.zeroValue358
 t55:=Tryz.underlying360
 a55:=Tryz.isAgg360
 z55:=Tryz.sizeOf360
 v55:=Tryz.zeroValue360
 t66:=Tryz.underlying377
 a66:=Tryz.isAgg377
 z66:=Tryz.sizeOf377
 v66:=Tryz.zeroValue377
 t70:=Tryz.underlying381
 a70:=Tryz.isAgg381
 z70:=Tryz.sizeOf381
 v70:=Tryz.zeroValue381
 t76:=Tryz.underlying386
 a76:=Tryz.isAgg386
 z76:=Tryz.sizeOf386
 v76:=Tryz.zeroValue386
 t77:=Tryz.underlying151
 a77:=Tryz.isAgg151
 z77:=Tryz.sizeOf151
 v77:=Tryz.zeroValue151
def Sv:Go.Shelf.Ren:=⟨fun | 23=>284 | n=>n,fun | 22=>22 | 3=>3 | 4=>4 | 0=>0 | n=>n,fun | n=>n⟩
theorem jo:Lays2.n23 Tryz.prog Sv where
 mixed:=by kernel_rfl
 f23:=Tryz.func284.trans (M1t some (by kernel_rfl))
 t0:=Tryz.underlying0
 a0:=Tryz.isAgg0
 z0:=Tryz.sizeOf0
 v0:=Tryz.zeroValue0
 t3:=Tryz.underlying3
 a3:=Tryz.isAgg3
 z3:=Tryz.sizeOf3
 v3:=Tryz.zeroValue3
 t4:=Tryz.underlying4
 a4:=Tryz.isAgg4
 z4:=Tryz.sizeOf4
 v4:=Tryz.zeroValue4
 t22:=Tryz.underlying22
 a22:=Tryz.isAgg22
 z22:=Tryz.sizeOf22
 v22:=Tryz.zeroValue22
 i3:=by kernel_rfl
def Sw:Go.Shelf.Ren:=⟨fun | 21=>285 | 27=>336 | 28=>337 | 35=>352 | 39=>293 | n=>n,fun | 22=>22 | 3=>3 | 4=>4 | 0=>0 | n=>n,fun | n=>n⟩
theorem jp:Lays2.n21 Tryz.prog Sw where
 mixed:=by kernel_rfl
 f21:=Tryz.func285.trans (M1t some (by kernel_rfl))
 f27:=Tryz.func336.trans (M1t some (by kernel_rfl))
 f28:=Tryz.func337.trans (M1t some (by kernel_rfl))
 f35:=Tryz.func352.trans (M1t some (by kernel_rfl))
 f39:=Tryz.func293.trans (M1t some (by kernel_rfl))
 t0:=Tryz.underlying0
 a0:=Tryz.isAgg0
 z0:=Tryz.sizeOf0
 v0:=Tryz.zeroValue0
 t3:=Tryz.underlying3
 a3:=Tryz.isAgg3
 z3:=Tryz.sizeOf3
 v3:=Tryz.zeroValue3
 t4:=Tryz.underlying4
 a4:=Tryz.isAgg4
 z4:=Tryz.sizeOf4
 v4:=Tryz.zeroValue4
 t22:=Tryz.underlying22
 a22:=Tryz.isAgg22
 z22:=Tryz.sizeOf22
 v22:=Tryz.zeroValue22
 i3:=by kernel_rfl
end Go.T
namespace Go.T
open Go Go.Proofs Go.Shelf Go.RowKit Go.Lib Go.Sort
theorem rz (W:World)(x y:Int):Calls Tryz.prog 225 #[.int .i64 x,.int .i64 y] W λe w'=>e=.returned (.int .i64 (Lib.compareInt x y))∧w'=W:=by
 unfold Lib.compareInt;have A:Tryz.prog.follows .mixedOrders=true:=by kernel_rfl
 by_cases h1:x<y
 ·rw [M1d h1]
  go_enter Tryz.func225,Tryz.ntmps225
  go_wp2
  all_goals (go_ret;exact ⟨rfl,rfl⟩)
 ·rw [M1e h1];by_cases h2:x>y
  ·rw [M1d h2]
   go_enter Tryz.func225,Tryz.ntmps225
   go_wp2
   all_goals (go_ret;exact ⟨rfl,rfl⟩)
  ·rw [M1e h2]
   go_enter Tryz.func225,Tryz.ntmps225
   go_wp2
   all_goals (go_ret;exact ⟨rfl,rfl⟩)
theorem two (W:World)(o1 o2:Obj):(W.alloc o1).alloc o2=grow (W.drewN 0) #[o1,o2]:=by
 show ({ W with heap:=(W.heap.push o1).push o2 }:World) = { W with heap:=W.heap++#[o1,o2],drawn:=W.drawn+0 }
 rw [show W.heap++#[o1,o2]=(W.heap.push o1).push o2 from rfl];rfl
theorem rA (W:World)(a b c d a' b' c' A:Int):Calls Tryz.prog 224 #[.agg #[.int .i64 a,.int .i64 b,.int .i64 c,.int .i64 d],.agg #[.int .i64 a',.int .i64 b',.int .i64 c',.int .i64 A]] W λe w'=>e=.returned (.int .i64 (Lib.compareInt a a'))∧∃ q E,w'=grow (W.drewN q) E:=by
 have G:Tryz.prog.follows .mixedOrders=true:=by kernel_rfl
 have B:=λW=>rz W a a'
 go_enter Tryz.func224,Tryz.ntmps224
 go_wp2_with fail
 refine (B _).mono ?_;rintro e w' ⟨rfl,rfl⟩
 go_wp2
 go_ret
 exact ⟨rfl,0,#[_,_],two W _ _⟩
theorem rB (W:World)(r o g off n c x y:Nat)(u v:Int)(A:x<n)(hy:y<n)(h1:W.cell? ⟨r,o,none⟩=some (.slice (some ⟨g,off,none⟩) n c))(h2:W.cell? ⟨g,off+x*4+1,none⟩=some (.int .i64 u))(h3:W.cell? ⟨g,off+y*4+1,none⟩=some (.int .i64 v)) :
  Calls Tryz.prog 340 #[.int .i64 x,.int .i64 y,.pointer (some ⟨r,o,none⟩)] W λe w'=>e=.returned (.int .i64 (wrap64 (u-v)))∧w'=W.drew:=by
 have B:Tryz.prog.follows .mixedOrders=true:=by kernel_rfl
 go_enter Tryz.func340,Tryz.ntmps340
 go_wp2
 go_region_o
 go_wp2
 go_ret
 exact ⟨rfl,rfl⟩
end Go.T
namespace Go.T
open Go Go.E Go.V Go.Sort Go.Proofs
section
variable {P:Program}{g b n c:Nat}{p:Go.E.Ren}{S:St}{w:World}{t:Ty}{T:TypeId}{a:Option Addr}
theorem Qu{S':St}(G:RH p S w){xs ys:List t.den}(ho:S.ow.get b=some ⟨t,T,xs,true⟩)(hp:p.ov b=some (a,n,c))
  (A:S.seto b (some ⟨t,T,ys,true⟩)=some S')(Y:c≤maxLen){vargs:List Value}(hw:CallVC P g vargs w λv w'=>v=.tuple #[]∧Ev (Av a) w w'∧ys.length=n∧OwnS (eZ p t) T w' [] a c ys) :
  CallVC P g vargs w λu w'=>∃ q,RV q (.tup []) u∧RH q S' w'∧Ch (λb=>S.nx≤b∧b<S'.nx) p w q w':=by
 obtain ⟨t1,O,Z,_,U⟩:=Ak A;refine hw.mono λv w' ⟨e,B,hl,H⟩=>?_
 obtain ⟨I,J⟩:=G.updO (S':=S') (o:=⟨t,T,xs,true⟩) (xs':=ys) ho rfl hp t1 O U B ⟨λ_=>⟨hl.symm,M4t H⟩,λh=>absurd h (by omega)⟩;exact ⟨p,⟨[],e,trivial⟩,I,J.mono λ_ h=>h.elim⟩
variable {v:Value}
theorem Kj(B:RH p S w){xs:List t.den}(ho:S.ow.get b=some ⟨t,T,xs,true⟩)(hv:RV p (.own b) v)(hT:Nat.blt T 1000000=true) :
  ∃ a c,v=.slice a xs.length c∧p.ov b=some (a,xs.length,c)∧c≤maxLen∧OwnS (eZ p t) T w [] a c xs:=by
 obtain ⟨a,n,c,rfl,hp,A⟩:=hv;obtain ⟨G,_⟩:=B.ro.mu b _ a n c ho rfl hp;obtain ⟨e,h1⟩:=G.1 A;have e:n=xs.length:=e;subst e;exact ⟨a,c,rfl,hp,A,h1.2 (by rw [Nat.blt_eq] at hT;exact hT)⟩
variable {xs:List Int}
theorem Er(h:OwnS (eZ p (.int .i64)) T w [] a c xs):OwnS (AZ .i64) T w [] a c xs:=h
theorem qq(h:OwnS (AZ .i64) T w [] a c xs):OwnS (eZ p (.int .i64)) T w [] a c xs:=h
theorem M3h {ρ : Go.Shelf.Ren} (L : Lays.n189 P ρ) {f : Nat} (hf : ρ.f 189 = f) (hcal : ∃ fn, P.funcs[f]? = some fn ∧ (fn.name == "runtime.NumGoroutine") = false ∧ fn.body.isNone = false){M:List Nat}{ys:List Int}(h:OwnS (AZ .i64) T w M a c xs)(hs:Zs xs=some ys) :
  CallVC P f [.slice a xs.length c] w λv w'=>v=.tuple #[]∧Ev (Av a) w w'∧ys.length=xs.length∧∀ M',OwnS (AZ .i64) T w' M' a c ys:=by
 unfold Zs at hs;split at hs;rename_i hl;cases hs;by_cases hx:xs=[]
 subst hx;refine ⟨?_,hcal⟩;subst hf;refine (Any.slices_Sort_int_none L a c w).mono λe w' ⟨he,hw⟩=>⟨_,he,rfl,?_,rfl,λM'=>?_⟩
 rw [hw];exact Ev.refl _ _;rw [hw];exact Xj h;exact iQ L hf hcal h ⟨hx,hl⟩;cases hs
def HJ (x:D4):List Value:=[.int .i64 x.1,.int .i64 x.2.1,.int .i64 x.2.2.1,.int .i64 x.2.2.2]
variable {x:D4}
theorem yX{M:List Nat}{cs:List Value}:(eT i4).R w M cs x↔cs=HJ x:=by
 constructor;rintro ⟨B,E,rfl,h1,c3,G,rfl,h2,c5,c6,rfl,h3,A⟩;have h1:B=[.int .i64 x.1]:=h1;have h2:c3=[.int .i64 x.2.1]:=h2;have h3:c5=[.int .i64 x.2.2.1]:=h3;have A:c6=[.int .i64 x.2.2.2]:=A;subst h1;subst h2;subst h3;subst A;rfl;rintro rfl;exact ⟨[_],_,rfl,rfl,[_],_,rfl,rfl,[_],[_],rfl,rfl,rfl⟩
theorem jq{A:Array Value}{fz:Nat×Nat}(hg:w.heap[g]? = some (.cells A T fz))(d:Array Value)(n:Nat)(os:Array Obj) :
  Ev [g] w (grow (putRow id (Sort.ahead w n) g 0 d) os)∧(grow (putRow id (Sort.ahead w n) g 0 d) os).heap[g]? = some (.cells (putCells id 0 d A) T fz):=by
 have B:=Am hg;refine ⟨⟨rfl,rfl,rfl,by simp [Sort.ahead],λk hk hm=>?_⟩,?_⟩;rw [heap_grow_old _ _ (by simpa [Sort.ahead] using hk)];have:g≠k:=λe=>hm (by simp [e])
 simp [putRow,mapBlock,Sort.ahead,M2l,this];rw [heap_grow_old _ _ (by simpa [Sort.ahead] using B)];simp [putRow,mapBlock,Sort.ahead,M2l,hg,onCells]
theorem qr (D:Array D4){i k:Nat}(A:D[i]? = some x)(hv:(HJ x)[k]? = some v):i*4+k<D.size*4∧(flatK HJ 4 D)[i*4+k]! = v:=by
 have hi:=(M2q.1 A).1;have hk:k<4:=(M09.1 hv).1;refine ⟨by omega,?_⟩;rw [get_flatK _ _ _ _ (by omega),show (i*4+k) / 4=i by omega,show (i*4+k)%4=k by omega,M2S D i hi];have e:D[i]=x:=by
  rw [M2b hi] at A;exact M1x A
 rw [e,M2S (HJ x) k hk];rw [M00 hk] at hv;exact M1x hv
theorem jr:SWO (ltOf U3):=⟨λx=>M1K (by simp only [U3,Lib.compareInt];split <;>(try split) <;> omega),λx y z h1 h2=>by
  have h1:=M1s h1;have h2:=M1s h2;refine M1p ?_;simp only [U3,Lib.compareInt] at h1 h2 ⊢;split at h1 <;> split at h2 <;>(try split at h1) <;>(try split at h2) <;>(try split) <;>(try split) <;> omega,λx y z h1 h2=>by
  have h1:=M21 h1;have h2:=M21 h2;refine M1K ?_;simp only [U3,Lib.compareInt] at h1 h2 ⊢;split at h1 <;> split at h2 <;>(try split at h1) <;>(try split at h2) <;>(try split) <;>(try split) <;> omega⟩
theorem M3i {ρ : Go.Shelf.Ren} (L : SlLaysF0.n6 P ρ) (aE : ∀ w, (isAgg (ρ.t 24)).run P w = .ok true w) (zE : ∀ w, (Go.sizeOf (ρ.t 24)).run P w = .ok 4 w) {f:Nat} (hf : ρ.f 6 = f) (hcal : ∃ fn, P.funcs[f]? = some fn ∧ (fn.name == "runtime.NumGoroutine") = false ∧ fn.body.isNone = false)
  (hcg : ∃ fn, P.funcs[g]? = some fn ∧ (fn.name == "runtime.NumGoroutine") = false ∧ fn.body.isNone = false)
  (hcmp:∀ (W:World)(x y:D4),Calls P g #[.agg (HJ x).toArray,.agg (HJ y).toArray] W λe w'=>e=.returned (.int .i64 (U3 x y))∧∃ q os',w'=grow (W.drewN q) os'){xs ys:List D4}(h:OwnS (eZ p i4) T w [] a c xs)(hs:Zt xs=some ys) :
  CallVC P f [.slice a xs.length c,.func (.func g) #[] #[]] w λv w'=>v=.tuple #[]∧Ev (Av a) w w'∧ys.length=xs.length∧OwnS (eZ p i4) T w' [] a c ys:=by
 refine ⟨?_,hcal⟩;subst hf;unfold Zt at hs;split at hs;rename_i hl;simp only [M1J] at hs;have hO:SWO (ltOf U3):=jr
 by_cases hx:xs=[]
 subst hx;have hperm:=pdq_sorts (ltOf U3) hO ([]:List D4).toArray 0 0 (Lib.bitLen 0) true true (M2j _) (M1g _) (Or.inl rfl);have e:ys=[]:=by
  rw [←hs];have:=hperm.1.1;exact M2k (by simpa using this)
 subst e;refine (AnyF.slices_SortFunc_none (P:=P) (ρ:=ρ) L a c (.func (.func g) #[] #[]) w).mono λe w' ⟨he,hw⟩=>⟨_,he,rfl,?_,rfl,?_⟩
 rw [hw];exact Ev.refl _ _;rw [hw];exact h;rcases h with ⟨_,_,e⟩|⟨g0,cur,ha,hg,h1,h2,h3,h4⟩;exact absurd e hx;subst ha;have hn:(eZ p i4).n=4:=rfl;rw [hn] at h3;have hcell:∀ (i:Nat) (x:D4),xs[i]? = some x→∀ (k:Nat) (v:Value),(HJ x)[k]? = some v→cur[i*4+k]? = some v:=λi x hi k v hv=>by
  obtain ⟨cs,k1,k2⟩:=h4 i x hi;have k1:(eT i4).R p.zw p.zM cs x:=k1;rw [yX.1 k1] at k2;exact k2 k v hv
 have hH:HoldsK HJ 4 w g0 0 xs.toArray:=λj hj=>by
  have hj:j<xs.length*4:=by simpa using hj
  have hi:j / 4<xs.length:=by omega
  refine ⟨?_,by simp [World.frozen?,hg]⟩;rw [M25,Af hg];have hk:j%4<(HJ xs[j / 4]).length:=M47 _ (by omega);have:=hcell (j / 4) xs[j / 4] (M00 hi) (j%4) _ (M00 hk);rw [show j / 4*4+j%4=j by omega] at this;rw [this];have f4:=(qr xs.toArray (i:=j / 4) (k:=j%4) (by rw [M26];exact M00 hi) (M00 hk)).2;rw [show j / 4*4+j%4=j by omega] at f4;exact M1t some f4.symm
 have key:=AnyQ.slices_SortFunc_eq L 4 aE zE HJ (λ_=>rfl) (λx v hv=>by
  unfold HJ at hv;simp only [M1y,M2o,M3u] at hv;rcases hv with rfl|rfl|rfl|rfl <;> rfl) U3 hO g #[] g0 0 c xs.toArray w
  (λargs w=>by obtain ⟨fn,h1,h2,h3⟩:=hcg;exact Df args w h1 h2 h3)
  (λm os dk hdk x y=>hcmp _ x y) hH (Am hg) (by simp;omega)
 have hsz:xs.toArray.size=xs.length:=by simp
 have hperm:=pdq_sorts (ltOf U3) hO xs.toArray 0 xs.toArray.size (Lib.bitLen xs.toArray.size) true true (M2j _) (M1g _) (Or.inl rfl);have hps:=hperm.1.1;rw [hsz] at key hs hps;refine key.mono λe w' ⟨he,n,os,hw⟩=>?_
 generalize pdq (ltOf U3) xs.toArray 0 xs.length (Lib.bitLen xs.length) true true=D at hs hps hw;subst hs;obtain ⟨q1,q2⟩:=jq hg (flatK HJ 4 D) n os;have hw:w'=grow (putRow id (Sort.ahead w n) g0 0 (flatK HJ 4 D)) os:=hw;rw [←hw] at q1 q2;refine ⟨_,he,rfl,q1,by simpa using hps,.inr ⟨g0,_,rfl,q2,by simp;omega,h2,by rw [hn,Hi];exact h3,λi x hi=>⟨HJ x,yX.2 rfl,λk v hv=>?_⟩⟩⟩;have hi':D[i]? = some x:=by rw [←hi];simp
 obtain ⟨f1,f2⟩:=qr D hi' hv;have hb:i*4+k<cur.size:=by omega
 rw [hn];simp only [putCells,Array.getElem?_mapIdx,M2b hb,M1W,M2j,M25,size_flatK,f1,M3G,M2K,M3f,f2,id_eq];cases hs
theorem cK (n:Int):A1 n=RowKit.wrap64 n:=IntWalk.i64_left n
theorem XU{w':World}(G:RH p S w){o:JC}(ho:S.ow.get b=some o)(hm:o.mu=true)(hp:p.ov b=some (a,n,c))(Z:Ev (Av a) w w')
  {m:Nat}{l:List GV}(hg:S.h.get m=some (.cells l)){j:List D4×Int}(hj:Em (.pair (.sl i4) (.int .i64)) l=some (j,[]))(hv:RV p (.ptr m 0) v){x y r:Int}(B:Xo j x y=some r) :
  ∃ (A off g0 o0 k O U:Nat) (u z:Int),v=.pointer (some ⟨A,off,none⟩)∧x=O∧y=U∧r=RowKit.wrap64 (u-z)∧O<j.1.length∧U<j.1.length∧w'.cell? ⟨A,off,none⟩=some (.slice (some ⟨g0,o0,none⟩) j.1.length k)∧
   w'.cell? ⟨g0,o0+O*4+1,none⟩=some (.int .i64 u)∧w'.cell? ⟨g0,o0+U*4+1,none⟩=some (.int .i64 z):=by
 unfold Xo at B;obtain ⟨ex,J,B⟩:=Option.bind_eq_some_iff.1 B;obtain ⟨Y,hy,B⟩:=Option.bind_eq_some_iff.1 B;obtain rfl:=M1x B;obtain ⟨x0,x1,J⟩:=CT J;obtain ⟨y0,y1,hy⟩:=CT hy;obtain ⟨A,base,nn,aa,rfl⟩:=hv;obtain ⟨cs,ty,fz,h1,h2,h3,vs,h4,h5⟩:=G.at_ m A base nn _ aa hg;obtain ⟨us,ws,rfl,⟨c1,c2,rfl,h6,h7⟩,h8⟩:=Dg _ hj h4;have ah:Stp p.zM p.zw (p.zM++Av a) w':=by
  have:Stp p.zM p.zw (p.zM++Av a) w:=⟨G.ro.zev,λb hb=>(M1b.1 hb).elim .inl λhb=>(G.ro.mu _ _ _ _ _ ho hm hp).2 b hb⟩
  exact Stp.trans this (Stp.same Z (λb hb=>M1z _ hb))
 obtain ⟨a1,H,rfl,hs⟩:=(eT (.sl i4)).step h6 ah;have I:0<j.1.length:=by omega
 cases a1 with
 | none=>rw [hs.nil rfl] at I;simp at I
 | some ad=>
  obtain ⟨s1,s2,s3,s4⟩:=hs.at_ ad rfl I;obtain ⟨g0,o0,sp⟩:=ad;have s1:sp=none:=s1;subst s1;have cell:∀ (i:Int) (e:D4),0≤i→j.1[i.toNat]? = some e→w'.cell? ⟨g0,o0+i.toNat*4+1,none⟩=some (.int .i64 e.2.1):=λi e _ hi=>by
   obtain ⟨cs,H,k2⟩:=s4 i.toNat e hi;have:=k2 1 (.int .i64 e.2.1) (by rw [yX.1 H];rfl);have en:(eT i4).n=4:=rfl;rw [en,←M1P] at this;exact this
  refine ⟨A,base+0,g0,o0,H,x.toNat,y.toNat,ex.2.1,Y.2.1,rfl,by omega,by omega,cK _,by omega,by omega,?_,cell x ex x0 J,cell y Y y0 hy⟩;have hne:A∉Av a:=G.ro.sep b o _ m _ ho hm hp aa (by rw [hg];simp);have ag:w'.heap[A]? = some (.cells cs ty fz):=by rw [Z.block A (Am h1) hne,h1]
  rw [M1M,Af ag];obtain ⟨t,ht⟩:=h5;have:(cs.toList.drop base)[0]? = some (.slice (some ⟨g0,o0,none⟩) j.1.length H):=by rw [←ht];rfl
  rw [M1C,M1M,M1E] at this;exact this
theorem yh {fn : Func} (h : Tryz.prog.funcs[g]? = some fn) (h1 : (fn.name == "runtime.NumGoroutine") = false) (h2 : fn.body.isNone = false) : ∃ fn, Tryz.prog.funcs[g]? = some fn ∧ (fn.name == "runtime.NumGoroutine") = false ∧ fn.body.isNone = false := ⟨fn, h, h1, h2⟩
theorem yY{g:GV}{l:List Value}(h:RVs p [g] l):∃ v,l=[v]∧RV p g v:=by
 match l,h with
 | [v],h=>exact ⟨v,rfl,h.1⟩
theorem yZ{g B:GV}{l:List Value}(h:RVs p [g,B] l):∃ v A,l=[v,A]∧RV p g v∧RV p B A:=by
 match l,h with
 | [v,A],h=>exact ⟨v,A,rfl,h.1,h.2.1⟩
theorem YW:cI Tryz.prog:=λg args S S' hg hs p w vargs hv E=>by
 unfold bX at hs;split at hs;split at hs;rename_i T xs A B;split at hs;rename_i hT;obtain ⟨ys,h1,h2⟩:=AI.1 hs;obtain rfl:=M0g A;obtain ⟨v,rfl,H⟩:=yY hv;obtain ⟨a,c,rfl,hp,G,ho⟩:=Kj E B H hT;exact Qu E B hp h2 G ((M3h yW rfl (yh Tryz.func219 (by kernel_rfl) (by kernel_rfl)) (Er ho) h1).mono λv w' ⟨I,J,U,Y⟩=>⟨I,J,U,qq (Y [])⟩);exact (A4.1 hs).elim;exact (A4.1 hs).elim;split at hs;rename_i T xs A B;split at hs;rename_i hT;obtain ⟨ys,h1,h2⟩:=AI.1 hs;rw [M05] at A;obtain rfl:=M0g A.1;obtain rfl:=M0g A.2;obtain ⟨v,v',rfl,H,Z,vc,rfl,O,hb⟩:=yZ hv;obtain ⟨a,c,rfl,hp,G,ho⟩:=Kj E B H hT
 match Z,vc,O,hb with
 | [],[],_,_=>exact Qu (t:=i4) E B hp h2 G (M3i ry (λw=>by kernel_rfl) (λw=>by kernel_rfl) rfl (yh Tryz.func223 (by kernel_rfl) (by kernel_rfl)) (yh Tryz.func224 (by kernel_rfl) (by kernel_rfl)) (λW x y=>rA W _ _ _ _ _ _ _ _) ho h1)
 exact (A4.1 hs).elim;exact (A4.1 hs).elim;split at hs;rename_i T xs l A B e3;split at hs;rename_i j hT hj;obtain ⟨ys,h1,h2⟩:=AI.1 hs;rw [M05] at A;obtain rfl:=M0g A.1;obtain rfl:=M0g A.2;obtain ⟨v,v',rfl,H,Z,vc,rfl,O,hb⟩:=yZ hv;obtain ⟨a,c,rfl,hp,G,ho⟩:=Kj E B H hT;obtain ⟨z,rfl,hz⟩:=yY hb
 match Z,O with
 | [],_=>
  exact Qu E B hp h2 G ((iS rx (g:=340) rfl (yh Tryz.func339 (by kernel_rfl) (by kernel_rfl)) (yh Tryz.func340 (by kernel_rfl) (by kernel_rfl)) [z] (Xo j) (Er ho) (λw' x y r he hr=>by
   obtain ⟨rb,off,g0,o0,k,xn,yn,u,y',rfl,rfl,rfl,rfl,q1,q2,q3,q4,q5⟩:=XU E B rfl hp he e3 hj hz hr;exact ⟨(rB w' rb off g0 o0 _ k xn yn u y' q1 q2 q3 q4 q5).mono λe u ⟨I,J⟩=>⟨_,I,rfl,1,J⟩,yh Tryz.func340 (by kernel_rfl) (by kernel_rfl)⟩) h1).mono λv w' ⟨I,J,U,Y⟩=>⟨I,J,U,qq (Y [])⟩)
 exact (A4.1 hs).elim;exact (A4.1 hs).elim;exact (A4.1 hs).elim
end
end Go.T
namespace Go.T
open Go Go.E Go.V Go.Proofs Go.Shelf Go.RowKit Go.Lib Go.Sort
theorem e34:C9 Tryz.prog 34 22 1 24 (.slice none 0 0):=⟨by kernel_rfl,⟨_,rfl,by kernel_rfl,by kernel_rfl,by kernel_rfl⟩,by kernel_rfl,rfl,rfl⟩
theorem M0b:C9 Tryz.prog 22 3 1 8 (.int .i64 0):=⟨by kernel_rfl,⟨_,rfl,by kernel_rfl,by kernel_rfl,by kernel_rfl⟩,by kernel_rfl,rfl,rfl⟩
theorem xq (X:World)(o1 o2:Obj):Ev [] X ((X.alloc o1).alloc o2).drew:=((Ev.alloc X o1).nil.ext (Ev.alloc _ o2).nil).ext ⟨rfl,rfl,rfl,M1g _,λ_ _ _=>rfl⟩
theorem M0c {its:List D4}{t u:Nat}(ht:t<its.length)(A:u<its.length):kd its t u=if its[t].1≠its[u].1 then 0 else if its[t].2.1≥its[u].2.1 then 0 else if u<t then 2 else 1:=by
 unfold kd;rw [Au ht,Au A]
theorem M0d (w:World)(a:Option Addr)(c:Nat)(its:List D4)(wt:Int)(M:List Nat)(hs:SlR (eT i4) w M a c its)(hl:its.length≤1000):Calls Tryz.prog 291 #[.agg #[.slice a its.length c,.int .i64 wt]] w λe w'=>
  ∃ a' c' B,e=.returned (.slice a' its.length c')∧Ev [] w w'∧(∀ b∈B,w.heap.size≤b)∧Rows w' B a' c' (Js its):=by
 have bo:=Ej;obtain ⟨O,ac⟩:∃ O,O=w.alloc (.cells #[.slice a its.length c,.int .i64 wt] 38 (0,0)):=⟨_,rfl⟩
 have az:Ev [] w O:=by rw [ac];exact (Ev.alloc w _).nil
 obtain ⟨ao,co,W2,m1,m2,m3,m4⟩:=M4F (P:=Tryz.prog) (AZ .i64) (T:=3) e34 O its.length (by omega) (by omega);rw [ac] at m1;simp only [M2T,M1i] at m1 m4;generalize hn:its.length=n at *
 have bp:O.heap.size=w.heap.size+1:=by rw [ac];show (w.heap.push _).size=_;simp
 have aC:O.cell? ⟨w.heap.size,0,none⟩=some (.slice a n c):=by rw [ac];rw [Af (Aq _ _)];rfl
 have a3:Ev [] w W2:=az.ext m2;have a5:W2.cell? ⟨w.heap.size,0,none⟩=some (.slice a n c):=by rw [m2.cell (by show w.heap.size<_;omega) (by simp)];exact aC
 have bb:∀ b∈Av ao,w.heap.size<b:=λb hb=>by have:=(m3 b hb).1;omega
 clear aC az
 go_enter Tryz.func291,Tryz.ntmps291
 go_wp2_with fail
 go_loopg [14] n (λg qF wr=>∃ t:Nat,qF=.int .i64 t∧t+g=n∧Ev [] w wr∧wr.cell? ⟨w.heap.size,0,none⟩=some (.slice a n c)∧∃ B,(∀ b∈B,w.heap.size<b)∧Rows wr B ao co (Cu its t))
 case atStart=>exact ⟨0,rfl,by omega,a3,a5,_,bb,by rw [Vm,hn];exact m4⟩
 case round=>
  obtain ⟨t,rfl,hg,G,J,B,hB,hR⟩:=hrel;by_cases ht:t<n
  ·obtain ⟨a1,c1,Z,A,q2,E,q4⟩:=KA (P:=Tryz.prog) (e:=AZ .i64) M0b wr n (by omega) (by omega) 0 (λ_ _=>rfl);simp only [M2T,M1i] at A q4;have aH:(Cu its t)[t]? = some []:=by unfold Cu;rw [M1n,M1I (by omega)];simp
   obtain ⟨g0,ai,ci,I,H,hf,ho,aF,al,_⟩:=BY hR aH;subst I;obtain ⟨p1,p2⟩:=HR hR aH H (q2.sub λ_ h=>(by cases h)) (q4 []) λb hb=>.inr (E b hb).1
   have a9:=hB g0 aF;have hgl:g0<wr.heap.size:=by
    rcases M1V g0 wr.heap.size with h'|h';exact h';simp [World.cell?,M28 h'] at H
   have aE:Z.cell? ⟨g0,t,none⟩=some (.slice ai 0 ci):=by rw [q2.cell hgl (by simp)];exact H
   have a8:Z.frozen? ⟨g0,t,none⟩=false:=by rw [←hf];simp [World.frozen?,q2.block g0 hgl (by simp)]
   generalize ak:Z.setCell ⟨g0,t,none⟩ (.slice a1 n c1)=W4 at *;have ba:(List.replicate n (0:Int)).length=n:=M2T;rw [ba,ak] at p1 p2;have am:w.heap.size<wr.heap.size:=by omega
   have a6:Z.cell? ⟨w.heap.size,0,none⟩=some (.slice a n c):=by rw [q2.cell am (by simp)];exact J
   have an:∀ b∈g0::Av ai,w.heap.size<b:=λb hb=>(M1y.1 hb).elim (λe=>by rw [e];exact a9) λh=>hB b (al b h)
   have aD:W4.cell? ⟨w.heap.size,0,none⟩=some (.slice a n c):=by rw [p2.cell am λh=>M3g _ (an _ h)];exact J
   have aA:Ev [] w W4:=G.then p2 λb hb=>.inr (M2J (an b hb))
   have ay:∀ b∈Av a1++B,w.heap.size<b:=λb hb=>(M1b.1 hb).elim (λh=>M1D am (E b h).1) (hB b)
   have aB:Rows W4 (Av a1++B) (some ⟨g0,0,none⟩) co ((Cu its t).set t (DW its t 0)):=by rw [Yz,hn];exact p1
   have a7:W4.cell? ⟨g0,t,none⟩=some (.slice a1 n c1):=by rw [←ak];exact World.cell?_setCell_same' Z _ _ (by rw [aE];rfl)
   clear G hR hB p1 p2 H hf an
   go_wp2_with fail
   go_loopg [29] n (λg2 s29 ar=>∃ u:Nat,s29=.int .i64 u∧u+g2=n∧Ev [] w ar∧ar.cell? ⟨w.heap.size,0,none⟩=some (.slice a n c)∧∃ B,(∀ b∈B,w.heap.size<b)∧Rows ar B (some ⟨g0,0,none⟩) co ((Cu its t).set t (DW its t u)))
   case atStart=>exact ⟨0,rfl,by omega,aA,aD,_,ay,aB⟩
   case round=>
    clear aA aD ay aB a7 J aE a8 A a6 ak;obtain ⟨u,rfl,bi,G,J,Y,hB,hR⟩:=hrel;by_cases hu:u<n
    ·have aI:((Cu its t).set t (DW its t u))[t]? = some (DW its t u):=by rw [M2Q (by rw [YB];omega)]
     obtain ⟨bh,a2,c2,I,H,hf,ho,aF,al,_⟩:=BY hR aI;cases I;rw [IR,hn] at H;cases a with
     | none=>have:=hs.nil rfl;rw [this] at hn;simp at hn;omega
     | some ad=>
      obtain ⟨s1,s2,s3,s4⟩:=hs.at_ ad rfl (by omega);obtain ⟨b0,o0,sp⟩:=ad;have s1:sp=none:=s1;subst s1;have s3:b0<w.heap.size:=s3;have cell:∀ (i:Nat) (hi:i<its.length) (m:Nat) (v:Value),(HJ its[i])[m]? = some v→wr.cell? ⟨b0,o0+i*4+m,none⟩=some v:=λi hi m v hv=>by
       obtain ⟨cs,k1,k2⟩:=s4 i its[i] (M00 hi);rw [yX.1 k1] at k2;rw [G.cell (a:=⟨b0,_,none⟩) s3 (by simp),M1P];exact k2 m v hv
      have t0:=cell t (by omega) 0 _ rfl;have t1:=cell t (by omega) 1 _ rfl;have t2:=cell t (by omega) 2 _ rfl;have t3:=cell t (by omega) 3 _ rfl;have u0:=cell u (by omega) 0 _ rfl;have u1:=cell u (by omega) 1 _ rfl;have u2:=cell u (by omega) 2 _ rfl;have u3:=cell u (by omega) 3 _ rfl;simp only [M1M] at t0 u0;have l1:w.heap.size<wr.heap.size:=by
       rcases M1V w.heap.size wr.heap.size with h'|h';exact h';simp [World.cell?,M28 h'] at J
      have l2:b0<wr.heap.size:=M1D s3 G.size;clear cell s4;obtain ⟨r,rfl⟩:∃ r,a2=some ⟨r,0,none⟩:=by
       rcases Dp ho with h|h;have e0:=M1t List.length h;rw [IR] at e0;have e0:its.length=0:=e0;omega
       exact h
      have aG:=Jd ho rfl u (by rw [IR];omega);rw [M25] at aG;obtain ⟨bc,bj⟩:=aG;have l3:g0<wr.heap.size:=by
       rcases M1V g0 wr.heap.size with h'|h';exact h';simp [World.cell?,M28 h'] at H
      have l4:r<wr.heap.size:=by
       rcases M1V r wr.heap.size with h'|h';exact h';simp [World.cell?,M28 h'] at bc
      have U:=M0c (its:=its) (t:=t) (u:=u) (by omega) (by omega);have fin:∀ (X:World) (B':List Nat) (o1 o2:Obj),Ev [r] wr X→(∀ b∈B',w.heap.size<b)→Rows X B' (some ⟨g0,0,none⟩) co ((Cu its t).set t (DW its t (u+1)))→
        ∃ u':Nat,Value.int .i64 ((u:Int)+1)=.int .i64 u'∧u'+(n-(u+1))=n∧Ev [] w ((X.alloc o1).alloc o2).drew∧((X.alloc o1).alloc o2).drew.cell? ⟨w.heap.size,0,none⟩=some (.slice (some ⟨b0,o0,none⟩) n c)∧∃ B,(∀ b∈B,w.heap.size<b)∧Rows ((X.alloc o1).alloc o2).drew B (some ⟨g0,0,none⟩) co ((Cu its t).set t (DW its t u')):=λX B' o1 o2 I e2 e3=>by
       have hb:w.heap.size<r:=hB r (al r (by simp [Av]));have e4:=xq X o1 o2;refine ⟨u+1,rfl,by omega,(G.then I λb a4=>?_).ext e4,?_,B',e2,OwnR.step (λ_ _ _ _ _ _ h=>h) e3 e4 λ_ _ h=>(by cases h)⟩;simp only [M19] at a4;exact .inr (by omega)
       rw [e4.cell (a:=⟨w.heap.size,0,none⟩) (M1D l1 I.size) (by simp),I.cell (a:=⟨w.heap.size,0,none⟩) l1 (by simp;omega)];exact J
      by_cases d1:its[t].1=its[u].1
      ·by_cases d2:its[t].2.1<its[u].2.1
       ·obtain ⟨A,q2,E⟩:=Z2 (j:=u) (v:=if u<t then 2 else 1) hR aI (by rw [IR,hn];exact H);have k0:kd its t u=if u<t then 2 else 1:=by rw [U,M1e (by simp [d1]),M1e (by omega)]
        have k1:(DW its t u).set u (if u<t then 2 else 1)=DW its t (u+1):=by rw [←fy (by omega),k0]
        rw [List.set_set,k1] at A;have E:∀ b∈r::Y,w.heap.size<b:=λb hb=>(M1y.1 hb).elim (λe=>by rw [e];exact hB r E) (hB b)
        clear hR U k0 k1;by_cases d3:u<t
        ·rw [M1d d3] at A q2
         go_wp2_with fail
         go_region_o
         all_goals
          go_wp2
          go_roundg (n-(u+1))
          case measure=>omega
          case rel=>exact fin _ _ _ _ q2 E A
        ·rw [M1e d3] at A q2
         go_wp2_with fail
         go_region_o
         all_goals
          go_wp2
          go_roundg (n-(u+1))
          case measure=>omega
          case rel=>exact fin _ _ _ _ q2 E A
       ·have bg:its[u].2.1≤its[t].2.1:=by omega
        have A:Rows wr Y (some ⟨g0,0,none⟩) co ((Cu its t).set t (DW its t (u+1))):=by rw [←PK (by rw [U];rw [M1e (by simp [d1]),M1d (by omega)])];exact hR
        have q2:Ev [r] wr wr:=Ev.refl _ _;have E:=hB;clear hR U hB
        go_wp2_with fail
        go_region_o
        all_goals
         go_wp2
         go_roundg (n-(u+1))
         case measure=>omega
         case rel=>exact fin _ _ _ _ q2 E A
      ·have A:Rows wr Y (some ⟨g0,0,none⟩) co ((Cu its t).set t (DW its t (u+1))):=by rw [←PK (by rw [U];rw [M1d d1])];exact hR
       have q2:Ev [r] wr wr:=Ev.refl _ _;have E:=hB;clear hR U hB
       go_wp2_with fail
       go_region_o
       all_goals
        go_wp2
        go_roundg (n-(u+1))
        case measure=>omega
        case rel=>exact fin _ _ _ _ q2 E A
    ·have e:u=n:=by omega
     subst e;have q:Rows wr Y (some ⟨g0,0,none⟩) co (Cu its (t+1)):=by rw [←YA (by omega),←fx its t,hn];exact hR
     clear hR
     go_wp2
     go_roundg (u-(t+1))
     case measure=>omega
     case rel=>exact ⟨t+1,rfl,by omega,G,J,Y,hB,q⟩
  ·have e:t=n:=by omega
   subst e;have K:Hid (Ev [] w wr∧(∀ b∈B,w.heap.size≤b)∧Rows wr B ao co (Js its)):=⟨G,λb hb=>M2J (hB b hb),by rw [←Yy,hn];exact hR⟩
   clear hR G hB
   go_wp2
   go_ret
   exact ⟨ao,co,B,rfl,K.out⟩
section
variable {w:World}
theorem C1{a:Addr}{v:Value}(h:w.cell? a=some v):a.block<w.heap.size:=by
 rcases M1V a.block w.heap.size with h'|h';exact h';simp [World.cell?,M28 h'] at h
theorem M0e (W:World)(x y z u i:Int)(bx:Nat)(h:W.cell? ⟨bx,0,none⟩=some (.int .i64 i)):Calls Tryz.prog 271 #[.agg #[.int .i64 x,.int .i64 y,.int .i64 z,.int .i64 u],.pointer (some ⟨bx,0,none⟩)] W λe w'=>e=.returned (.bool (x==i))∧Ev [] W w':=by
 have l1:bx<W.heap.size:=C1 h
 go_enter Tryz.func271,Tryz.ntmps271
 go_wp2
 go_ret
 exact ⟨rfl,(Ev.alloc W _).nil⟩
variable {c:Nat}
theorem xr{M:List Nat}{A o0:Nat}{l:List D4}(hs:SlR (eT i4) w M (some ⟨A,o0,none⟩) c l){k:Nat}(hk:k<l.length):w.cell? ⟨A,o0+k*4,none⟩=some (.int .i64 l[k].1)∧w.cell? ⟨A,o0+k*4+1,none⟩=some (.int .i64 l[k].2.1)∧w.cell? ⟨A,o0+k*4+2,none⟩=some (.int .i64 l[k].2.2.1)∧w.cell? ⟨A,o0+k*4+3,none⟩=some (.int .i64 l[k].2.2.2):=by
 obtain ⟨_,_,_,G⟩:=hs.at_ _ rfl (by omega);obtain ⟨cs,E,B⟩:=G k l[k] (M00 hk);rw [yX.1 E] at B;exact ⟨B 0 _ rfl,by rw [M1P];exact B 1 _ rfl,by rw [M1P];exact B 2 _ rfl,by rw [M1P];exact B 3 _ rfl⟩
theorem Gy {α:Type}{e:Enc α}{M:List Nat}{a:Option Addr}{l:List α}(hs:SlR e w M a c l)(hl:0<l.length):∃ A o0,a=some ⟨A,o0,none⟩:=by
 cases a with
 | none=>rw [hs.nil rfl] at hl;simp at hl
 | some ad=>
  obtain ⟨s1,_⟩:=hs.at_ ad rfl hl;obtain ⟨A,o0,sp⟩:=ad;have s1:sp=none:=s1;subst s1;exact ⟨A,o0,rfl⟩
theorem xt (W:World)(a:Option Addr)(c:Nat)(l:List D4)(i:Int)(bx:Nat)(M:List Nat)(hs:SlR (eT i4) W M a c l)(hl:l.length≤4294967296)(h:W.cell? ⟨bx,0,none⟩=some (.int .i64 i)) :
  Calls Tryz.prog 316 #[.slice a l.length c,.func (.func 271) #[] #[.pointer (some ⟨bx,0,none⟩)]] W λe w'=>∃ r:Int,e=.returned (.int .i64 r)∧decide (r≥0)=l.any (λp=>p.1==i)∧Ev [] W w':=by
 have hb:=C1 h;generalize hn:l.length=n at *
 go_enter Tryz.func316,Tryz.ntmps316
 go_wp2_with fail
 go_loopg [8] n (λg s8 wr=>∃ t:Nat,s8=.int .i64 t∧t+g=n∧Ev [] W wr∧∀ k (hk:k<l.length),k<t→l[k].1≠i)
 case atStart=>exact ⟨0,rfl,by omega,Ev.refl _ _,λk _ h=>by omega⟩
 case round=>
  obtain ⟨t,rfl,hg,A,B⟩:=hrel;have O:wr.cell? ⟨bx,0,none⟩=some (.int .i64 i):=by rw [A.cell hb (by simp)];exact h
  by_cases ht:t<n
  ·obtain ⟨Y,o0,rfl⟩:=Gy hs (by omega);obtain ⟨t0,t1,t2,t3⟩:=xr (hs.step (Stp.same A (λ_ h=>by cases h))) (k:=t) (by omega);have G:=M0e wr l[t].1 l[t].2.1 l[t].2.2.1 l[t].2.2.2 i bx O;by_cases hq:l[t].1=i
   ·have I:l.any (λp=>p.1==i)=true:=M2P.2 ⟨l[t],M03 _,by simp [hq]⟩;have E:(l[t].1==i)=true:=by simp [hq]
    rw [E] at G;clear B hq E
    go_wp2_with fail
    refine G.mono ?_;rintro e w' ⟨rfl,H⟩
    go_wp2
    go_ret
    exact ⟨t,rfl,by rw [I];simp,A.ext H⟩
   ·have E:(l[t].1==i)=false:=by simp [hq]
    rw [E] at G;have J:∀ k (hk:k<l.length),k<t+1→l[k].1≠i:=λk hk Z=>by
     by_cases e:k=t;subst e;exact hq;exact B k hk (by omega)
    clear B hq E
    go_wp2_with fail
    refine G.mono ?_;rintro e w' ⟨rfl,H⟩
    go_wp2
    go_roundg (n-(t+1))
    case measure=>omega
    case rel=>exact ⟨t+1,rfl,by omega,A.ext H,J⟩
  ·have I:l.any (λp=>p.1==i)=false:=by
    rw [List.any_eq_false];intro x U;obtain ⟨k,hk,e⟩:=M3Q U;have:=B k hk (by omega);rw [e] at this;simp [this]
   clear B
   go_wp2
   go_ret
   exact ⟨-1,rfl,by rw [I];rfl,A⟩
theorem xu (W:World)(a:Option Addr)(c:Nat)(l:List D4)(i:Int)(bx:Nat)(M:List Nat)(hs:SlR (eT i4) W M a c l)(hl:l.length≤4294967296)(h:W.cell? ⟨bx,0,none⟩=some (.int .i64 i)) :
  Calls Tryz.prog 270 #[.slice a l.length c,.func (.func 271) #[] #[.pointer (some ⟨bx,0,none⟩)]] W λe w'=>e=.returned (.bool (l.any λp=>p.1==i))∧Ev [] W w':=by
 have B:=xt W a c l i bx M hs hl h
 go_enter Tryz.func270,Tryz.ntmps270
 go_wp2_with fail
 refine B.mono ?_;rintro e w' ⟨r,rfl,hr,A⟩
 go_wp2
 go_ret
 exact ⟨by rw [←hr];rfl,A⟩
theorem Gz {P:Program}{ops:Array Oper}{o:Oper}{a:Act}{K:Act→World→Prop}{Q:Exit→Act→World→Prop}{E:Prop}(H:o.guard=none)(s x:Operand)(t:TypeId)(ho:o.op=.call { callee:=.builtin .append,args:=#[s,x],argTypes:=#[t,t] })
  {A G v:Value}{B:World}(hs:a.eval s=A)(I:a.eval x=G)(hr:(Builtin.append_ #[t,t] o.type #[A,G]).run P w=.ok v B)(h:K (a.put o.dst v) B):if Region.wanted o (yielded ops a.tmps)=true then Oper.wp P o a w K Q else E:=by
 have hw:Region.wanted o (yielded ops a.tmps)=true:=by simp [Region.wanted,H]
 rw [M1d hw];exact Z1 s x t ho hs I hr h
theorem M0f (W:World){a:Option Addr}{xs:List Int}(i:Int)(h:OwnS (AZ .i64) 3 W [] a c xs)(hl:xs.length<4294967296) :
  ∃ a' c' w',(Builtin.append_ #[22,22] 22 #[.slice a xs.length c,.slice (some ⟨W.heap.size,0,none⟩) 1 1]).run Tryz.prog (W.alloc (.cells #[.int .i64 i] 3 (0,0))).drew=.ok (.slice a' (xs++[i]).length c') w'∧Ev (Av a) W w'∧(∀ b∈Av a',b∈Av a∨W.heap.size≤b)∧OwnS (AZ .i64) 3 w' [] a' c' (xs++[i]):=by
 have A:Ev [] W (W.alloc (.cells #[.int .i64 i] 3 (0,0))).drew:=(Ev.alloc W _).nil.ext ⟨rfl,rfl,rfl,M1g _,λ_ _ _=>rfl⟩;have hg:(W.alloc (.cells #[.int .i64 i] 3 (0,0))).drew.heap[W.heap.size]? = some (.cells #[.int .i64 i] 3 (0,0)):=Aq _ _;have ho:OwnS (AZ .i64) 3 (W.alloc (.cells #[.int .i64 i] 3 (0,0))).drew (Av a) a c xs:=h.evp (λ_ _ _ _ _ _ h=>h) A λ_ _ h=>(by cases h)
 have hy:SlR (AZ .i64) (W.alloc (.cells #[.int .i64 i] 3 (0,0))).drew (Av a) (some ⟨W.heap.size,0,none⟩) 1 [i]:=⟨M1g _,by unfold maxLen;omega,λh=>(by cases h),λad E _=>by
  cases E;refine ⟨rfl,λhb=>M3g _ (h.lt _ hb),Am hg,λk x B=>?_⟩;cases k with
  | zero=>
   cases B;refine ⟨[.int .i64 i],rfl,λm v hv=>?_⟩;cases m with
   | zero=>cases hv;rw [Af hg];rfl
   | succ m=>simp at hv
  | succ k=>simp at B⟩
 obtain ⟨a',c',w',r1,r2,r3,G,H⟩:=DZ (P:=Tryz.prog) M0b 22 ho (λ_ h=>h) hy (by simp;omega);refine ⟨a',c',w',r1,A.nil.then r2 (λb hb=>.inl hb),λb hb=>(G b hb).imp id λe=>?_,H [] λ_ h=>by cases h⟩;have:W.heap.size≤(W.alloc (.cells #[.int .i64 i] 3 (0,0))).drew.heap.size:=A.size;omega
end
section
def IS (l:List D4) (stay:Bool) (d:List (List Int)) (t:Nat):List (List Int):=(d.take t).map (Kh l stay)++List.replicate (d.length-t) []
variable {t:Nat}
theorem oz {l:List D4}{stay:Bool}{d:List (List Int)}(ht:t<d.length):(IS l stay d t)[t]? = some []:=by
 unfold IS;rw [M1a (by simp;omega),M2N,M1d (by simp;omega)]
theorem fA {l:List D4}{stay:Bool}{d:List (List Int)}(ht:t<d.length):(IS l stay d t).set t (Kh l stay d[t])=IS l stay d (t+1):=by
 have hl:((d.take t).map (Kh l stay)).length=t:=by simp;omega
 obtain ⟨m,hm⟩:∃ m,d.length-t=m+1:=⟨d.length-t-1,by omega⟩
 unfold IS;rw [hm,M3R,List.set_append_right _ _ (by omega),hl,M3B,List.set_cons_zero,show d.length-(t+1)=m by omega,M08 ht,M1A,M20];rfl
theorem set_same {α:Type}{xs:List α}{i:Nat}{x:α}(h:xs[i]? = some x):xs.set i x=xs:=by
 obtain ⟨h1,h2⟩:=M09.1 h;subst h2;exact List.set_getElem_self h1
theorem SK (a b:Bool):(a != b) = !(a==b):=rfl
theorem oA (w:World)(a2 a1:Option Addr)(J c1:Nat)(b0 b1:Option Addr)(n0 n1 d0 d1:Nat)(d:List (List Int))(l:List D4)(stay:Bool)(M:List Nat)(aI:SlR (eT (.sl ti)) w M a2 J d)(bd:SlR (eT i4) w M a1 c1 l)
  (hd:d.length≤1000000)(hr:∀ r∈d,r.length≤1000000)(hl:l.length≤1000000) :
  Calls Tryz.prog 228 #[.agg #[.slice b0 n0 d0,.slice b1 n1 d1,.slice a2 d.length J],.slice a1 l.length c1,.bool stay] w λe w'=>
   ∃ a' c' B,e=.returned (.slice a' d.length c')∧Ev [] w w'∧(∀ b∈B,w.heap.size≤b)∧Rows w' B a' c' (d.map (Kh l stay)):=by
 have bn:=Ej;obtain ⟨G,ae⟩:∃ G,G=w.alloc (.cells #[.slice b0 n0 d0,.slice b1 n1 d1,.slice a2 d.length J] 164 (0,0)):=⟨_,rfl⟩
 have aD:Ev [] w G:=by rw [ae];exact (Ev.alloc w _).nil
 obtain ⟨ao,co,W2,m1,m2,m3,m4⟩:=M4F (P:=Tryz.prog) (AZ .i64) (T:=3) e34 G d.length (by omega) (by omega);rw [ae] at m1;simp only [M2T,M1i] at m1 m4;generalize hn:d.length=n at *
 have bo:G.heap.size=w.heap.size+1:=by rw [ae];show (w.heap.push _).size=_;simp
 have aE:G.cell? ⟨w.heap.size,2,none⟩=some (.slice a2 n J):=by rw [ae];rw [Af (Aq _ _)];rfl
 have E:Ev [] w W2:=aD.ext m2;have a6:W2.cell? ⟨w.heap.size,2,none⟩=some (.slice a2 n J):=by rw [m2.cell (by show w.heap.size<_;omega) (by simp)];exact aE
 have ba:∀ b∈Av ao,w.heap.size<b:=λb hb=>by have:=(m3 b hb).1;omega
 clear aE aD
 go_enter Tryz.func228,Tryz.ntmps228
 go_wp2_with fail
 go_loopg [19] n (λg s19 wr=>∃ t:Nat,s19=.int .i64 t∧t+g=n∧Ev [] w wr∧∃ B,(∀ b∈B,w.heap.size<b)∧Rows wr B ao co (IS l stay d t))
 case atStart=>exact ⟨0,rfl,by omega,E,_,ba,by unfold IS;rw [hn];simpa using m4⟩
 case round=>
  obtain ⟨t,rfl,hg,A,B,hB,hR⟩:=hrel;clear a6 E;by_cases ht:t<n
  ·obtain ⟨p0,o0,rfl⟩:=Gy aI (by omega);obtain ⟨s1,s2,s3,s4⟩:=aI.at_ _ rfl (by omega);obtain ⟨cs,⟨ar,cr,rfl,hrow⟩,k2⟩:=s4 t d[t] (M00 (by omega));have hh:=k2 0 _ rfl;have en:(eT (.sl ti)).n=1:=rfl;have s3:p0<w.heap.size:=s3;rw [en,M29,M1M,←A.cell (a:=⟨p0,_,none⟩) s3 (by simp)] at hh;have hrow:SlR (AZ .i64) w M ar cr d[t]:=hrow;clear k2 s4;have bc:=hr d[t] (M03 _);obtain ⟨row,ap⟩:∃ row,row=d[t]:=⟨_,rfl⟩
   rw [←ap] at hh hrow bc;have aq:=oz (l:=l) (stay:=stay) (d:=d) (t:=t) (by omega);have hR:Rows wr B ao co ((IS l stay d t).set t (Kh l stay (row.take 0))):=by rw [List.take_zero];exact (set_same aq).symm ▸ hR
   have bk:t<(IS l stay d t).length:=(M09.1 aq).1;have aJ:(IS l stay d t).set t (Kh l stay row)=IS l stay d (t+1):=by rw [ap];exact fA (by omega)
   generalize hm:row.length=m at *;clear aq ap;generalize IS l stay d t=D at *
   go_wp2_with fail
   go_loopg [26] m (λg2 oE wr=>∃ u:Nat,oE=.int .i64 u∧u+g2=m∧Ev [] w wr∧∃ B,(∀ b∈B,w.heap.size<b)∧Rows wr B ao co (D.set t (Kh l stay (row.take u))))
   case atStart=>exact ⟨0,rfl,by omega,A,B,hB,hR⟩
   case round=>
    clear hh A hB hR;obtain ⟨u,rfl,bj,A,B,hB,hR⟩:=hrel;by_cases hu:u<m
    ·obtain ⟨pr,or,rfl⟩:=Gy hrow (by omega);obtain ⟨s1,s2,s5,s4⟩:=hrow.at_ _ rfl (by omega);have s5:pr<w.heap.size:=s5;obtain ⟨cs,rfl,k2⟩:=s4 u row[u] (M00 (by omega));have hx:=k2 0 _ rfl;have en:(AZ .i64).n=1:=rfl;rw [en,M29,M1M,←A.cell (a:=⟨pr,_,none⟩) s5 (by simp)] at hx;have aK:row.take (u+1)=row.take u++[row[u]]:=M08 (by omega);clear k2 s4;generalize row[u]=x at *
     obtain ⟨X,U⟩:∃ X,X=wr.alloc (.cells #[.int .i64 x] 3 (0,0)):=⟨_,rfl⟩
     have aj:Ev [] wr X:=by rw [U];exact (Ev.alloc wr _).nil
     have Y:X.cell? ⟨wr.heap.size,0,none⟩=some (.int .i64 x):=by rw [U,Af (Aq _ _)];rfl
     have hc:=xu X a1 c1 l x wr.heap.size M (bd.step (Stp.same (A.ext aj) (λ_ h=>by cases h))) (by omega) Y;have a7:=C1 Y;rw [U] at hc;by_cases hq:((l.any λp=>p.1==x)!=stay)=true
     ·have Z:Kh l stay (row.take (u+1))=Kh l stay (row.take u)++[x]:=by rw [aK];unfold Kh;rw [M2n];simp [hq]
      generalize (l.any λp=>p.1==x)=bb at *;have hq:(!(bb==stay))=true:=(SK bb stay).symm.trans hq
      go_wp2_with fail
      refine hc.mono ?_;rintro e w' ⟨rfl,E⟩;rw [←U] at E;have I:Ev [] wr w':=aj.ext E;have a5:Ev [] w w':=A.ext I;have a8:w'.cell? ⟨wr.heap.size,0,none⟩=some (.int .i64 x):=by rw [E.cell a7 (by simp)];exact Y
      have O:Rows w' B ao co (D.set t (Kh l stay (row.take u))):=OwnR.step (λ_ _ _ _ _ _ h=>h) hR I λ_ _ h=>(by cases h)
      have au:(D.set t (Kh l stay (row.take u)))[t]? = some (Kh l stay (row.take u)):=by rw [M2Q (by omega)]
      have bm:(Kh l stay (row.take u)).length≤1000000:=by
       have h1:=M2y (λi=>(l.any λp=>p.1==i)!=stay) (row.take u);have h2:(row.take u).length≤u:=by simp;omega
       unfold Kh;omega
      generalize hy:Kh l stay (row.take u)=ys at *;obtain ⟨g0,ai,ci,e1,am,aF,ho,a9,ak,aH⟩:=BY O au;subst e1;obtain ⟨a3,c3,w3,r1,r2,r3,r4⟩:=M0f w' x ho (by omega);obtain ⟨p1,p2⟩:=HR O au am r2 r4 r3;have aG:=C1 am;have bh:w3.cell? ⟨g0,t,none⟩=some (.slice ai ys.length ci):=by rw [r2.cell (a:=⟨g0,t,none⟩) aG aH];exact am
      have bi:w3.frozen? ⟨g0,t,none⟩=false:=by rw [←aF];simp [World.frozen?,r2.block g0 aG aH]
      have bg:wr.heap.size<w'.heap.size:=C1 a8;have H:Hid ((Builtin.append_ #[22,22] 22 #[.slice ai ys.length ci,.slice (some ⟨w'.heap.size,0,none⟩) 1 1]).run Tryz.prog (w'.alloc (.cells #[.int .i64 x] 3 (0,0))).drew=.ok (.slice a3 (ys++[x]).length c3) w3):=r1;rw [List.set_set] at p1;have HB:∀ b∈g0::Av ai,w.heap.size<b:=λb hb=>(M1y.1 hb).elim (λe=>by rw [e];exact hB g0 a9) λh=>hB b (ak b h)
      have fin:∃ B,(∀ b∈B,w.heap.size<b)∧Rows (w3.setCell ⟨g0,t,none⟩ (.slice a3 (ys++[x]).length c3)) B (some ⟨g0,0,none⟩) co (D.set t (Kh l stay (row.take (u+1)))):=⟨_,λb hb=>(M1b.1 hb).elim (λh=>(r3 b h).elim (λh=>hB b (ak b h)) λh=>by have:=A.size;have:=I.size;omega) (hB b),by rw [Z];exact p1⟩
      have ad:Ev [] w (w3.setCell ⟨g0,t,none⟩ (.slice a3 (ys++[x]).length c3)):=a5.then p2 λb hb=>.inr (M2J (HB b hb))
      rw [show (ys++[x]).length=ys.length+1 by simp] at fin ad;clear r1 p1 p2 r2 r3 r4 hR O hB HB ak au Z aF ho Y
      go_wp2_with fail
      go_region_law_o (refine Gz rfl _ _ 22 rfl rfl rfl H.out ?_)
      all_goals
       go_wp2
       go_roundg (m-(u+1))
       case measure=>omega
       case rel=>exact ⟨u+1,rfl,by omega,ad,fin⟩
     ·have Z:Kh l stay (row.take (u+1))=Kh l stay (row.take u):=by rw [aK];unfold Kh;rw [M2n];simp [hq]
      generalize (l.any λp=>p.1==x)=bb at *;have hq:(!(bb==stay))=false:=(SK bb stay).symm.trans (Bool.eq_false_iff.2 hq)
      go_wp2_with fail
      refine hc.mono ?_;rintro e w' ⟨rfl,E⟩;rw [←U] at E;have I:Ev [] wr w':=aj.ext E;have ad:Ev [] w w':=A.ext I;have O:Rows w' B ao co (D.set t (Kh l stay (row.take (u+1)))):=by rw [Z];exact OwnR.step (λ_ _ _ _ _ _ h=>h) hR I λ_ _ h=>(by cases h)
      clear hR Z Y
      go_wp2
      go_roundg (m-(u+1))
      case measure=>omega
      case rel=>exact ⟨u+1,rfl,by omega,ad,B,hB,O⟩
    ·have e:u=m:=by omega
     subst e;have q:Rows wr B ao co (IS l stay d (t+1)):=by rw [←aJ];rw [←hm,M1m] at hR;exact hR
     clear hR aJ
     go_wp2
     go_roundg (n-(t+1))
     case measure=>omega
     case rel=>exact ⟨t+1,rfl,by omega,A,B,hB,q⟩
  ·have e:t=n:=by omega
   subst e;have K:Hid (Ev [] w wr∧(∀ b∈B,w.heap.size≤b)∧Rows wr B ao co (d.map (Kh l stay))):=⟨A,λb hb=>M2J (hB b hb),by have:=hR;unfold IS at this;rw [←hn,M1m,M3B,List.replicate_zero,M1w] at this;exact this⟩
   clear hR A hB
   go_wp2
   go_ret
   exact ⟨ao,co,B,rfl,K.out⟩
end
end Go.T
namespace Go.T
open Go Go.E Go.V Go.Proofs
section
variable {α:Type}{w:World}{M:List Nat}{a:Option Addr}{c:Nat}
theorem YC{e e':Enc α}{T:TypeId}{M':List Nat}{xs:List α}(h:OwnS e T w M a c xs)(hn:e'.n=e.n)(hR:∀ cs x,e.R w M cs x→e'.R w M' cs x):OwnS e' T w M' a c xs:=by
 rcases h with h|⟨g,A,h1,h2,h3,B,E,G⟩;exact .inl h;refine .inr ⟨g,A,h1,h2,h3,B,by rw [hn];exact E,λi x H=>?_⟩;obtain ⟨cs,I,J⟩:=G i x H;exact ⟨cs,hR cs x I,by rw [hn];exact J⟩
theorem SL{e:Enc α}{T:TypeId}{xs:List α}(h:OwnS e T w M a c xs):c≤maxLen:=by
 rcases h with ⟨_,rfl,_⟩|⟨g,A,_,_,_,h,_⟩;exact M2j _;exact h
variable {T ts:Nat}{t:Ty}{z:Value}
theorem Wq{bytes:Nat}(ht:C9 Tryz.prog ts T (eT t).n bytes z){xs:List t.den}(hs:SlR (eT t) w M a c xs)(hl:xs.length≤4294967296) :
  ∃ a' c' w',(Builtin.append_ #[ts,ts] ts #[.slice (some ⟨w.heap.size,0,none⟩) 0 0,.slice a xs.length c]).run Tryz.prog (w.alloc (.cells #[] T (0,0)))=.ok (.slice a' xs.length c') w'∧Ev [] w w'∧(∀ b∈Av a',w.heap.size≤b∧b<w'.heap.size)∧∀ M',(∀ x∈M',x∈M∨w.heap.size≤x)→OwnS (eT t) T w' M' a' c' xs:=by
 have B:Ev [] w (w.alloc (.cells #[] T (0,0))):=(Ev.alloc w _).nil;have J:(w.alloc (.cells #[] T (0,0))).heap.size=w.heap.size+1:=by show (w.heap.push _).size=_;simp
 have ho:OwnS (eT t) T (w.alloc (.cells #[] T (0,0))) (w.heap.size::M) (some ⟨w.heap.size,0,none⟩) 0 []:=.inr ⟨w.heap.size,#[],rfl,Aq _ _,M1g _,M2j _,by simp,λi x A=>(by cases A)⟩;obtain ⟨a',c',w',r1,r2,r3,H,I⟩:=DZ (P:=Tryz.prog) ht ts ho (λx A=>by simp only [Av,M19] at A;simp [A]) (hs.step (Stp.of B (λ_ h=>(by cases h)) (λb hb=>(M1y.1 hb).elim (λe=>.inr (M1O e.symm)) .inl):Stp M w (w.heap.size::M) _)) (by simpa using hl);have G:Ev [] w w':=B.then r2 λb hb=>by simp only [Av,M19] at hb;exact .inr (M1O hb.symm)
 refine ⟨a',c',w',by simpa using r1,G,λb hb=>?_,λM' E=>?_⟩;obtain ⟨h1,h2⟩:=r3 b hb;refine ⟨?_,h2⟩;rcases H b hb with h|h
 simp only [Av,M19] at h;omega
 omega;have:=I M' λx A=>(E x A).elim (λh=>.inl (M1c _ h)) λh=>by
  by_cases e:x=w.heap.size;exact .inl (by simp [e]);exact .inr (by omega)
 simpa using this
variable {g:Nat}
theorem PL {bytes:Nat} (hc : J4 g ts T) (ht : C9 Tryz.prog ts T (eT t).n bytes z) (hcal : ∃ fn, Tryz.prog.funcs[g]? = some fn ∧ (fn.name == "runtime.NumGoroutine") = false ∧ fn.body.isNone = false){xs:List t.den}(hs:SlR (eT t) w M a c xs)(hl:xs.length≤4294967296) :
  CallVC Tryz.prog g [.slice a xs.length c] w λv w'=>∃ a' c',v=.slice a' xs.length c'∧Ev [] w w'∧(∀ b∈Av a',w.heap.size≤b∧b<w'.heap.size)∧∀ M',(∀ x∈M',x∈M∨w.heap.size≤x)→OwnS (eT t) T w' M' a' c' xs:=by
 refine ⟨?_,hcal⟩;obtain ⟨k1,k2⟩:=hc w;cases a with
 | none=>
  have hx:=hs.nil rfl;subst hx;exact (k1 c).mono λe w' ⟨he,hw⟩=>⟨_,he,none,0,rfl,by rw [hw];exact Ev.refl _ _,λb hb=>(by cases hb),λM' _=>OwnS.nil _ _ _ _⟩
 | some ad=>
  obtain ⟨a',c',w',r1,r2,r3,r4⟩:=Wq ht hs hl;exact (k2 w' ad xs.length c _ r1).mono λe u ⟨he,hu⟩=>⟨_,he,a',c',rfl,by rw [hu];exact r2,by rw [hu];exact r3,by rw [hu];exact r4⟩
theorem EX{bytes:Nat}{F:List t.den→Option (List t.den)}(hF:∀ x y,F x=some y→y=x∧x.length≤4294967296)
  (hp : ∀ (w w' : World) (M M' : List Nat) cs x, (eT t).R w M cs x → (eT t).R w' M' cs x) (hc : J4 g ts T) (ht : C9 Tryz.prog ts T (eT t).n bytes z) (hcal : ∃ fn, Tryz.prog.funcs[g]? = some fn ∧ (fn.name == "runtime.NumGoroutine") = false ∧ fn.body.isNone = false) :
  AW Tryz.prog g ⟨1,[],[],[.slot 0 (.d (.sl t))],[.slot 1000000 (.own t T)],false,F⟩:=by
 refine xv (ins:=[.slot 0 (.d (.sl t))]) (t:=t) (T:=T) (F:=F) λx y hy=>⟨_,rfl,λq w vargs hl hf hz hM=>?_⟩
 obtain ⟨e,hx⟩:=hF x y hy;subst e;obtain ⟨v,rfl⟩:∃ v,vargs=[v]:=by
  cases vargs with
  | nil=>cases hl
  | cons v l=>cases l with
   | nil=>exact ⟨v,rfl⟩
   | cons _ _=>cases hl
 have hv:RV q (.ro t y) v:=hf 0 (.ro t y) rfl;obtain ⟨a,c,e,hs⟩:∃ a c,[v]=[.slice a (List.length (y:List t.den)) c]∧SlR (eT t) q.zw q.zM a c y:=hv;cases e;rw [hz] at hs;refine (PL hc ht hcal hs hx).mono λU B ⟨o,E,e1,e2,e3,e5⟩=>⟨o,E,e1,SL (e5 [] λ_ h=>by cases h),λb hb=>(e3 b hb).1,e2,λr _ _=>M4t (YC (e5 [] λ_ h=>by cases h) rfl λcs x h=>hp _ _ _ _ _ _ h)⟩
theorem oD{F:List α→Option (List α)}(h:∀ x,F x=bif Nat.ble x.length 4294967296 then some x else none):∀ x y,F x=some y→y=x∧x.length≤4294967296:=λx y hy=>by
 rw [h] at hy;cases hb:Nat.ble x.length 4294967296 with
 | true=>rw [hb] at hy;cases hy;exact ⟨rfl,M18 hb⟩
 | false=>rw [hb] at hy;cases hy
theorem Bz {a b:Ty}(h1:∀ (w w':World) (M M':List Nat) cs x,(eT a).R w M cs x→(eT a).R w' M' cs x)(h2:∀ (w w':World) (M M':List Nat) cs x,(eT b).R w M cs x→(eT b).R w' M' cs x):∀ (w w':World) (M M':List Nat) cs x,(eT (.pair a b)).R w M cs x→(eT (.pair a b)).R w' M' cs x:=
 λw w' M M' cs x ⟨A,B,e,r1,r2⟩=>⟨A,B,e,h1 _ _ _ _ _ _ r1,h2 _ _ _ _ _ _ r2⟩
theorem iC (k:IntKind):∀ (w w':World) (M M':List Nat) cs x,(eT (.int k)).R w M cs x→(eT (.int k)).R w' M' cs x:=λ_ _ _ _ _ _ h=>h
theorem plB:∀ (w w':World) (M M':List Nat) cs x,(eT .bool).R w M cs x→(eT .bool).R w' M' cs x:=λ_ _ _ _ _ _ h=>h
theorem plS:∀ (w w':World) (M M':List Nat) cs x,(eT .str).R w M cs x→(eT .str).R w' M' cs x:=λ_ _ _ _ _ _ h=>h
theorem e22:C9 Tryz.prog 22 3 1 8 (.int .i64 0):=⟨by kernel_rfl,⟨_,rfl,by kernel_rfl,by kernel_rfl,by kernel_rfl⟩,by kernel_rfl,rfl,rfl⟩
theorem oE:AW Tryz.prog 26 (qv W5):=EX (t:=ti) (T:=3) (F:=W5) (oD λ_=>rfl) (iC _) yJ e22 ⟨_,Tryz.func26,by kernel_rfl,by kernel_rfl⟩
theorem s27:AW Tryz.prog 27 (S27 qx):=EX (t:=A9) (T:=60) (F:=qx) (z:=.agg #[Vs ([]:List UInt8),.int .i64 0,.int .i64 0,.int .i64 0,.int .i64 0,.int .i64 0,.bool false,Vs ([]:List UInt8)]) (bytes:=80) (oD λ_=>rfl) (Bz plS (Bz (iC _) (Bz (iC _) (Bz (iC _) (Bz (iC _) (Bz (iC _) (Bz plB plS))))))) M38 ⟨by kernel_rfl,⟨_,rfl,by kernel_rfl,by kernel_rfl,by kernel_rfl⟩,by kernel_rfl,rfl,rfl⟩ ⟨_,Tryz.func27,by kernel_rfl,by kernel_rfl⟩
theorem s92:AW Tryz.prog 92 (S92 yA):=EX (t:=Ai) (T:=157) (F:=yA) (z:=.agg #[.int .i64 0,.int .i64 0,.int .i64 0,.int .i64 0]) (bytes:=32) (oD λ_=>rfl) (Bz (iC _) (Bz (iC _) (Bz (iC _) (iC _)))) M39 ⟨by kernel_rfl,⟨_,rfl,by kernel_rfl,by kernel_rfl,by kernel_rfl⟩,by kernel_rfl,rfl,rfl⟩ ⟨_,Tryz.func92,by kernel_rfl,by kernel_rfl⟩
theorem M5l:AW Tryz.prog 137 (M02 dX):=EX (t:=.str) (T:=9) (F:=dX) (z:=Vs ([]:List UInt8)) (bytes:=16) (oD λ_=>rfl) plS yK ⟨by kernel_rfl,⟨_,rfl,by kernel_rfl,by kernel_rfl,by kernel_rfl⟩,by kernel_rfl,rfl,rfl⟩ ⟨_,Tryz.func137,by kernel_rfl,by kernel_rfl⟩
end
end Go.T
namespace Go.T
open Go Go.E Go.V Go.Proofs Go.Shelf Go.RowKit Go.Lib Go.Sort
section
variable {c:Nat}
theorem M0h {w:World}{B:List Nat}{a a1:Option Addr}{A:Nat}{d:List (List Int)}{x:List Int}(h:Rows w B a c d)(hy:OwnS (AZ .i64) 3 w [] a1 A x)(hd:∀ b∈Av a1,b∉B)(H:∀ b∈B,b<w.heap.size)(hl:d.length<4294967295) :
  ∃ a2 G w' I,(Builtin.append_ #[34,34] 34 #[.slice a d.length c,.slice (some ⟨w.heap.size,0,none⟩) 1 1]).run Tryz.prog (w.alloc (.cells #[.slice a1 x.length A] 22 (0,0)))=.ok (.slice a2 (d.length+1) G) w'∧Ev B w w'∧
   (∀ b∈I,(b∈B∨b∈Av a1∨w.heap.size≤b)∧b<w'.heap.size)∧Rows w' I a2 G (d++[x]):=by
 have E:Ev [] w (w.alloc (.cells #[.slice a1 x.length A] 22 (0,0))):=(Ev.alloc w _).nil;have hg:(w.alloc (.cells #[.slice a1 x.length A] 22 (0,0))).heap[w.heap.size]? = some (.cells #[.slice a1 x.length A] 22 (0,0)):=Aq _ _;have hs:SlR PU (w.alloc (.cells #[.slice a1 x.length A] 22 (0,0))) B (some ⟨w.heap.size,0,none⟩) 1 [(a1,x.length,A)]:=⟨M1g _,by unfold maxLen;omega,λh=>(by cases h),λad O _=>by
  cases O;refine ⟨rfl,λhb=>M3g _ (H _ hb),Am hg,λk y J=>?_⟩;cases k with
  | zero=>
   cases J;refine ⟨[.slice a1 x.length A],rfl,λm v hv=>?_⟩;cases m with
   | zero=>cases hv;rw [Af hg];rfl
   | succ m=>simp at hv
  | succ k=>simp at J⟩
 have hR:Rows (w.alloc (.cells #[.slice a1 x.length A] 22 (0,0))) B a c d:=OwnR.step (λ_ _ _ _ _ _ h=>h) h E λ_ _ h=>(by cases h)
 obtain ⟨a2,G,w',r1,r2,r3,Y,Z⟩:=OwnR.append (P:=Tryz.prog) (λ_ _ _ _ _ _ h=>h) e34 34 hR hs (hy.evp (M':=[]) (λ_ _ _ _ _ _ h=>h) E λ_ _ h=>(by cases h)) hd (λb hb=>M1D (H b hb) E.size) (by omega);have ab:w.heap.size≤(w.alloc (.cells #[.slice a1 x.length A] 22 (0,0))).heap.size:=E.size;refine ⟨a2,G,w',_,by simpa using r1,E.nil.then r2 (λb hb=>.inl (r3 b hb)),λb hb=>?_,Z⟩;rcases M1b.1 hb with h|h
 obtain ⟨U,q2⟩:=Y b h;exact ⟨U.imp id λe=>.inr (by omega),q2⟩;have aa:(w.alloc (.cells #[.slice a1 x.length A] 22 (0,0))).heap.size≤w'.heap.size:=r2.size;rcases M1b.1 h with h|h
 exact ⟨.inr (.inl h),by have:=hy.lt b h;omega⟩;exact ⟨.inl h,by have:=H b h;omega⟩
theorem Ws {w:World}{M:List Nat}{a:Option Addr}{t:Nat}{d:List (List Int)}(hs:SlR (eT (.sl ti)) w M a c d)(ht:t<d.length):∃ p o A B,a=some ⟨p,o,none⟩∧p<w.heap.size∧w.cell? ⟨p,o+t,none⟩=some (.slice A d[t].length B)∧SlR (AZ .i64) w M A B d[t]:=by
 obtain ⟨p,o,rfl⟩:=Gy hs (by omega);obtain ⟨_,_,s3,I⟩:=hs.at_ _ rfl (by omega);obtain ⟨cs,⟨A,B,rfl,hrow⟩,H⟩:=I t d[t] (M00 ht);have E:=H 0 _ rfl;have G:(eT (.sl ti)).n=1:=rfl;rw [G,M29,M1M] at E;exact ⟨p,o,A,B,rfl,s3,E,hrow⟩
theorem fC (w:World)(a:Option Addr)(c:Nat)(d:List (List Int))(M:List Nat)(hs:SlR (eT (.sl ti)) w M a c d)(hd:d.length≤1000000)(hr:∀ r∈d,r.length≤1000000) :
  Calls Tryz.prog 245 #[.slice a d.length c] w λe w'=>∃ a' c' B,e=.returned (.slice a' d.length c')∧Ev [] w w'∧(∀ b∈B,w.heap.size≤b∧b<w'.heap.size)∧Rows w' B a' c' d:=by
 have ak:=Ej;generalize hn:d.length=n at *
 go_enter Tryz.func245,Tryz.ntmps245
 go_wp2_with fail
 go_loopg [3,8] n (λg s3 s8 wr=>∃ (t:Nat) (ao:Option Addr) (co:Nat),s3=.slice ao t co∧s8=.int .i64 t∧t+g=n∧Ev [] w wr∧∃ B,(∀ b∈B,w.heap.size≤b∧b<wr.heap.size)∧Rows wr B ao co (d.take t))
 case atStart=>exact ⟨0,none,0,rfl,rfl,by omega,Ev.refl _ _,[],λb hb=>(by cases hb),OwnR.nil _ _ _ _ _⟩
 case round=>
  obtain ⟨t,ao,co,rfl,rfl,hg,A,B,hB,hR⟩:=hrel;by_cases ht:t<n
  ·obtain ⟨p0,o0,ar,cr,rfl,l1,hh,hrow⟩:=Ws hs (t:=t) (by omega);rw [←A.cell (a:=⟨p0,_,none⟩) l1 (by simp)] at hh;have ai:=hr d[t] (M03 _);have U:d.take (t+1)=d.take t++[d[t]]:=M08 (by omega);generalize d[t]=row at *
   have hc:=(PL (t:=ti) yJ e22 ⟨_,Tryz.func26,by kernel_rfl,by kernel_rfl⟩ (hrow.step (Stp.same A (λ_ h=>by cases h))) (by omega)).run;have ad:(d.take t).length=t:=by simp;omega
   go_wp2_with fail
   refine hc.mono ?_;rintro e E ⟨v,rfl,a1,Z,rfl,h1,h2,h3⟩;have O:Rows E B ao co (d.take t):=OwnR.step (λ_ _ _ _ _ _ h=>h) hR h1 λ_ _ h=>(by cases h)
   have aj:=A.size;have ae:=h1.size;obtain ⟨a2,J,G,I,r1,r2,r3,Y⟩:=M0h O (h3 [] λ_ h=>(by cases h)) (λb hb aa=>by have:=(h2 b hb).1;have:=(hB b aa).2;omega) (λb hb=>M1D (hB b hb).2 ae) (by omega);rw [ad] at r1;have H:Hid ((Builtin.append_ #[34,34] 34 #[.slice ao t co,.slice (some ⟨E.heap.size,0,none⟩) 1 1]).run Tryz.prog (E.alloc (.cells #[.slice a1 row.length Z] 22 (0,0)))=.ok (.slice a2 (t+1) J) G):=r1;have q1:Ev [] w G:=(A.ext h1).then r2 λb hb=>.inr (hB b hb).1
   have q2:∀ b∈I,w.heap.size≤b∧b<G.heap.size:=λb hb=>⟨by
    rcases (r3 b hb).1 with h|h|h;exact (hB b h).1;have:=(h2 b h).1;omega;omega,(r3 b hb).2⟩
   rw [←U] at Y;clear r1 r2 r3 O hB h2 h3 hR U
   go_wp2_with (at_builtin;refine Ca rfl _ _ 34 rfl rfl rfl H.out ?_)
   go_roundg (n-(t+1))
   case measure=>omega
   case rel=>exact ⟨t+1,a2,J,rfl,rfl,by omega,q1,I,q2,Y⟩
  ·have e:t=n:=by omega
   subst e;rw [←hn,M1m] at hR
   go_wp2
   go_ret
   exact ⟨ao,co,B,rfl,A,hB,hR⟩
theorem xw (w:World)(a:Option Addr)(c:Nat)(d:List (List Int))(M:List Nat)(hs:SlR (eT (.sl ti)) w M a c d)(hd:d.length≤1000000)(hr:∀ r∈d,r.length≤1000000) :
  Calls Tryz.prog 69 #[.slice a d.length c] w λe w'=>∃ a' c' B,e=.returned (.slice a' d.length c')∧Ev [] w w'∧(∀ b∈B,w.heap.size≤b∧b<w'.heap.size)∧Rows w' B a' c' d:=by
 have an:=Ej;generalize hn:d.length=n at *
 go_enter Tryz.func69,Tryz.ntmps69
 go_wp2_with fail
 go_loopg [3,4] n (λg s3 s4 wr=>∃ (t:Nat) (ao:Option Addr) (co:Nat),s3=.slice ao t co∧s4=.int .i64 t∧t+g=n∧Ev [] w wr∧∃ B,(∀ b∈B,w.heap.size≤b∧b<wr.heap.size)∧Rows wr B ao co (d.take t))
 case atStart=>exact ⟨0,none,0,rfl,rfl,by omega,Ev.refl _ _,[],λb hb=>(by cases hb),OwnR.nil _ _ _ _ _⟩
 case round=>
  obtain ⟨t,ao,co,rfl,rfl,hg,A,B,hB,hR⟩:=hrel;by_cases ht:t<n
  ·obtain ⟨p0,o0,ar,cr,rfl,l1,hh,hrow⟩:=Ws hs (t:=t) (by omega);rw [←A.cell (a:=⟨p0,_,none⟩) l1 (by simp)] at hh;have ak:=hr d[t] (M03 _);have Z:d.take (t+1)=d.take t++[d[t]]:=M08 (by omega);generalize d[t]=row at *
   have l2:p0<wr.heap.size:=M1D l1 A.size;obtain ⟨a1,J,E,U,h1,h2,h3⟩:=Wq (t:=ti) e22 (hrow.step (Stp.same A (λ_ h=>by cases h))) (by omega);have ag:(d.take t).length=t:=by simp;omega
   have Y:Rows E B ao co (d.take t):=OwnR.step (λ_ _ _ _ _ _ h=>h) hR h1 λ_ _ h=>(by cases h)
   have al:=A.size;have ah:=h1.size;obtain ⟨a2,O,G,I,r1,r2,r3,r4⟩:=M0h Y (h3 [] λ_ h=>(by cases h)) (λb hb ae=>by have:=(h2 b hb).1;have:=(hB b ae).2;omega) (λb hb=>M1D (hB b hb).2 ah) (by omega);rw [ag] at r1;have H0:Hid ((Builtin.append_ #[22,22] 22 #[.slice (some ⟨wr.heap.size,0,none⟩) 0 0,.slice ar row.length cr]).run Tryz.prog (wr.alloc (.cells #[] 3 (0,0)))=.ok (.slice a1 row.length J) E):=U;have H:Hid ((Builtin.append_ #[34,34] 34 #[.slice ao t co,.slice (some ⟨E.heap.size,0,none⟩) 1 1]).run Tryz.prog (E.alloc (.cells #[.slice a1 row.length J] 22 (0,0)))=.ok (.slice a2 (t+1) O) G):=r1;have q1:Ev [] w G:=(A.ext h1).then r2 λb hb=>.inr (hB b hb).1
   have q2:∀ b∈I,w.heap.size≤b∧b<G.heap.size:=λb hb=>⟨by
    rcases (r3 b hb).1 with h|h|h;exact (hB b h).1;have:=(h2 b h).1;omega;omega,(r3 b hb).2⟩
   rw [←Z] at r4;clear U r1 r2 r3 Y hB h2 h3 hR Z
   go_wp2_with (at_builtin;first | refine Ca rfl _ _ 34 rfl rfl rfl H.out ?_ | refine Ca rfl _ _ 22 rfl rfl rfl H0.out ?_)
   go_roundg (n-(t+1))
   case measure=>omega
   case rel=>exact ⟨t+1,a2,O,rfl,rfl,by omega,q1,I,q2,r4⟩
  ·have e:t=n:=by omega
   subst e;rw [←hn,M1m] at hR
   go_wp2
   go_ret
   exact ⟨ao,co,B,rfl,A,hB,hR⟩
end
end Go.T
namespace Go.T
open Go Go.E Go.V Go.Proofs
section
variable {w':World}{c:Nat}
theorem xx {w:World}{B:List Nat}{a:Option Addr}{A:List (List Int)}(h:OwnR (AZ .i64) 3 22 w' B a c A none)(hB:∀ b∈B,w.heap.size≤b)(r:Go.E.Ren)(hz:r.zw=w')(hM:∀ k∈r.zM,k<w.heap.size∨k∈Av a):OwnX (eZ r (.sl (.int .i64))) 22 w' [] a c A:=by
 obtain ⟨hs,h1,h2,h3,h4,h5⟩:=h;refine M4t ?_;rcases h1 with ⟨rfl,rfl,rfl⟩|⟨g,O,rfl,hg,h6,h7,h8,h9⟩
 have:A=[]:=M2k (by simpa using h2.symm);exact .inl ⟨rfl,rfl,this⟩;refine .inr ⟨g,O,rfl,hg,by omega,h7,h8,λi x H=>?_⟩;have G:i<hs.length:=by have:=(M09.1 H).1;omega
 obtain ⟨a1,a2,a3⟩:=h4 i hs[i] x (M00 G) H (by simp);obtain ⟨cs,U,Z⟩:=h9 i hs[i] (M00 G);have Y:cs=[.slice hs[i].1 hs[i].2.1 hs[i].2.2]:=U;refine ⟨cs,⟨hs[i].1,hs[i].2.2,by rw [Y,a2],?_⟩,Z⟩;rw [hz];refine (OwnS.plain (M':=r.zM) (λ_ _ _ _ _ _ h=>h) a1).ro (λ_ h=>h) λb hb=>?_
 obtain ⟨I,J⟩:=a3 b hb;have:=hB b I;intro q;rcases hM b q with e|e
 omega;exact J e
theorem SN{B:List Nat}{a:Option Addr}{A:List (List Int)}(h:OwnR (AZ .i64) 3 22 w' B a c A none):c≤maxLen∧∀ b∈Av a,b∈B:=by
 obtain ⟨hs,h1,h2,h3,E,G⟩:=h;exact ⟨SL h1,h3⟩
theorem Wt {l:List Value}(h:l.length=1):∃ a,l=[a]:=by
 match l,h with
 | [a],_=>exact ⟨a,rfl⟩
theorem qC {l:List Value}(h:l.length=3):∃ a b c,l=[a,b,c]:=by
 match l,h with
 | [a,b,c],_=>exact ⟨a,b,c,rfl⟩
theorem qD {l:List Value}(h:l.length=4):∃ a b c d,l=[a,b,c,d]:=by
 match l,h with
 | [a,b,c,d],_=>exact ⟨a,b,c,d,rfl⟩
theorem G4 {q:Go.E.Ren}{w:World}{t:Ty}{xs:List t.den}{v:Value}(A:q.zw=w)(h:RV q (.ro t xs) v):∃ a c,v=.slice a (List.length xs) c∧SlR (eT t) w q.zM a c xs:=by
 obtain ⟨a,c,e,hs⟩:∃ a c,[v]=[.slice a (List.length xs) c]∧SlR (eT t) q.zw q.zM a c xs:=h;cases e;exact ⟨a,c,rfl,by rw [←A];exact hs⟩
end
def tabOK:XQ→Prop
 | []=>True
 | (g,sp)::l=>AW Tryz.prog g sp∧tabOK l
theorem tabOK.mem:∀ {l:XQ},tabOK l→∀ g sp,(g,sp)∈l→AW Tryz.prog g sp
 | [],_,g,sp,h=>by cases h
 | (g0,sp0)::l,⟨h0,h1⟩,g,sp,h=>by
  rcases M1y.1 h with e|e;cases e;exact h0;exact tabOK.mem h1 g sp e
theorem oF (BS : ∀ (g : Nat) (fn : Func), Tryz.prog.funcs[g]? = some fn → (fn.name == "runtime.NumGoroutine") = false) (YW : cI Tryz.prog) {il : List FuncId} {ia an : List (Nat × List It)} {tab : XQ} {g : FuncId} {sp : Be} (ht : tabOK tab)
  (hF:∀ x y,sp.F x=some y→fnY std Tryz.prog (Ie std Tryz.prog il ia tab 4) an sp.na sp.sz sp.bx sp.ins sp.outs g x=some y):AW Tryz.prog g sp:=
 rt Ej BS (MC Ej BS YW ht.mem 4).1 (MC Ej BS YW ht.mem 4).2 (ZO (MC Ej BS YW ht.mem 4).1) hF
theorem Wu:qa Tryz.prog=true:=by kernel_rfl
theorem BS : ∀ (g : Nat) (fn : Func), Tryz.prog.funcs[g]? = some fn → (fn.name == "runtime.NumGoroutine") = false := λg fn hg => by
 have:=M1R.1 Wu fn (M1k (by rw [M1E];exact hg))
 simpa using this
end Go.T
