/- Part S of the proof of TopConserved: what the arguments say, and the walk lifted. No condition. -/
import Derived.Deep.Slices
import Derived.WalkKit
import Derived.ProofKit
import Derived.OpenShut
import Derived.ShutString
import Derived.ChangeOld
import Derived.Below
import Derived.LaidMore
import Derived.Lay
import Derived.MakeChecks
import Derived.SevenTiedAt
import Derived.Lib.LaidTab
import Derived.Test.YtmihkgopplkcjaaGreatDoorRows
import Derived.Test.YtmihkgopplkcjaaGreatDoorCards
import Derived.Test.YtmihkgopplkcjaaGreatDoorTie
import Derived.Test.YtmihkgopplkcjaaGreatDoorN
import Derived.Test.YtmihkgopplkcjaaGreatDoorF
set_option linter.all false
set_option maxRecDepth 1000000
set_option maxHeartbeats 0
namespace Go.V
open Go
def RD {α:Type} (P:Program) (e:Enc α) (t:TypeId) (Q:α→Prop):Prop:=∀ (H:Type) (enc:TypeId×Value→H) (W:World) (base:Nat) (sp:Nat→Bool) (B:Bool) (A:Nat) (cs:List Value) (x:DataW H×List MemPlace),
 DataW.trod enc P W base sp B A t cs=some x→∃ d,e.R W [] cs d∧Q d
theorem qN {P:Program}{t:TypeId}{k:IntKind}(ht:P.underlying t=some (.int k)):RD P (AZ k) t (λn=>(Lit.int k n).wf=true):=by
 intro H enc W base sp B A cs x h;obtain ⟨n,rfl,_,hw⟩:=DataW.trod_int ht h;exact ⟨n,rfl,hw⟩
theorem Vz {α:Type}{p:Nat→α→Prop}:∀ (n:Nat),(∀ i,i<n→∃ y,p i y)→∃ ys:List α,ys.length=n∧∀ (i:Nat) (y:α),ys[i]? = some y→p i y
 | 0,_=>⟨[],rfl,λi y h=>by simp at h⟩
 | n+1,h=>by
  obtain ⟨ys,h1,h2⟩:=Vz n (λi hi=>h i (by omega));obtain ⟨y,hy⟩:=h n (by omega);refine ⟨ys++[y],by simp [h1],λi z A=>?_⟩;rcases M1V i ys.length with hi|hi
  rw [M1f hi] at A;exact h2 i z A
  rw [M1a hi] at A;have B:i-ys.length=0:=by
   rcases M30 (i-ys.length) with h|h;exact h;rw [M1h (by simp;omega)] at A;cases A
  rw [B] at A;cases A;have:i=n:=by omega
  subst this;exact hy
theorem YZ {P:Program}{α:Type}{e:Enc α}{t el:TypeId}{Q:α→Prop}(ht:P.underlying t=some (.slice el))(hn:P.cellsOf el=e.n)(hp:Nat.blt 0 e.n=true)(O:RD P e el Q):RD P (eSl e) t (λl=>∀ y∈l,Q y):=by
 intro H enc W base sp U aa cs x h;have hp:=M18 hp;rcases Go.Deep.open_slice ht h with ⟨rfl,_⟩|⟨a,len,cap,m,n,D,Z,rfl,hb,hl,hm,Y,_,G⟩
 exact ⟨[],⟨none,0,rfl,M4r _ _ _⟩,by simp⟩;have ac:len≤m:=by rw [Y];split <;> omega
 obtain ⟨ys,h1,h2⟩:=Vz (p:=λi y=>∃ cs',W.cells? base (a.add (i*e.n)) e.n=some cs'∧e.R W [] cs' y∧Q y) len (λi hi=>by
  obtain ⟨cs',A,E⟩:=G i (by omega);rw [hn] at A;obtain ⟨y,c3,B⟩:=O H enc W base sp U n cs' _ E;exact ⟨y,cs',A,c3,B⟩)
 have spot:0<len→a.spot=none∧a.block<W.heap.size:=by
  intro ab;obtain ⟨cs',A,E⟩:=G 0 (by omega);rw [hn] at A;obtain ⟨_,c3,B⟩:=World.cells?_some A;have c5:=B 0 (by omega);rw [M00 (by omega)] at c5;have I:(a.add (0*e.n)).add 0=a:=by simp [Addr.add]
  rw [I] at c5;refine ⟨World.cell?_spot c5,?_⟩;simp only [World.cell?] at c5
  split at c5;rename_i hb;exact Am hb;cases c5
 refine ⟨ys,⟨some a,cap,by rw [h1],?_⟩,λy hy=>?_⟩;refine ⟨by omega,hm,λh=>(by cases h),λad J ae=>?_⟩;cases J;obtain ⟨s1,s2⟩:=spot (by omega);refine ⟨s1,by simp,s2,λi y hy=>?_⟩;obtain ⟨cs',A,E,_⟩:=h2 i y hy;obtain ⟨_,c3,B⟩:=World.cells?_some A;refine ⟨cs',E,λk v hv=>?_⟩;have hk:k<e.n:=by have:=(M09.1 hv).1;omega
 have c5:=B k hk;rw [AQ s1,AQ rfl,hv] at c5;rw [←M1P];exact c5
 obtain ⟨i,hi,rfl⟩:=M3Q hy;exact (h2 i _ (M00 hi)).choose_spec.2.2
end Go.V
namespace Go.Proofs.YtmihkgopplkcjaaGreatDoor.topConserved
open Go.V Go.E
open Go.ChangeShapes Go.WideShapes Go.ChangeAt Go.RowKit
theorem own:ownKnob Tryz.prog.godebug=none:=by kernel_rfl
theorem pS:laidOutB Tryz.prog=true:=by kernel_rfl
theorem rd3:RD Tryz.prog (AZ .i64) 3 (λ(n:Int)=>(Lit.int .i64 n).wf=true):=qN Tryz.underlying3
theorem M9l:RD Tryz.prog (eSl (AZ .i64)) 22 (λ(l:List Int)=>∀ y∈l,(λ(n:Int)=>(Lit.int .i64 n).wf=true) y):=YZ Tryz.underlying22 (by kernel_rfl) rfl rd3
theorem OI {H:Type}{enc:TypeId×Value→H}{P:Program}{w:World}{base:Nat}{sp:Nat→Bool}{O:Bool}{A:Nat}{t e:TypeId}{n:Nat}{cs:List Value}{zs:List (List UInt8)}{p:List MemPlace}
  (ht:P.underlying t=some (.array n e))(J:P.underlying e=some .string)(G:P.cellsOf e=1)(I:P.cellsOf t=n)
  (h:DataW.trod enc P w base sp O A t cs=some (.agg (zs.map λz=>.lit (.string z)),p)):cs=zs.map Vs:=by
 cases A with
 | zero=>simp [DataW.trod] at h
 | succ A=>
  simp only [DataW.trod,ht,G,I,M29] at h;split at h;rename_i hl;obtain ⟨xs,hm,U⟩:=M01.1 h;have B:xs.map (·.1)=zs.map λz=>(DataW.lit (.string z):DataW H):=by
   have:=M1t Prod.fst U
   simpa using this
  have Z:xs.length=n:=by simpa using Lib.mapM_length hm
  have aa:zs.length=n:=by
   have:=M1t List.length B;simp at this;omega
  apply M23;intro i;by_cases hi:i<n;obtain ⟨b,hb,hf⟩:=Lib.mapM_at hm i i (by simp [hi]);obtain ⟨z,E,rfl,_⟩:=DataW.trod_string J hf;have h1:cs[i]? = some (.string z):=by
   have:=M1t (·[0]?) E
   simpa [M1r,M1C] using this
  have h2:(xs.map (·.1))[i]? = some (DataW.lit (.string z.data.toList):DataW H):=by simp [hb]
  rw [B] at h2;simp only [M1n,M01,DataW.lit.injEq,Lit.string.injEq] at h2;obtain ⟨z',Y,rfl⟩:=h2;simp [h1,Y]
  rw [M1h (by omega),M1h (by simp;omega)];cases h
def pU:List (List UInt8):=[[97],[98],[99],[100],[101],[102,97,114]]
theorem g0 : Tryz.prog.globalNamed "humpyard/yardgen.dests" = some 0 := by kernel_rfl
theorem gt0:(Tryz.prog.globals[0]?).map (·.type)=some 115:=by kernel_rfl
theorem u0:Tryz.prog.underlying 115=some (.array 6 9):=by kernel_rfl
theorem u9:Tryz.prog.underlying 9=some .string:=by kernel_rfl
theorem c9:Tryz.prog.cellsOf 9=1:=by kernel_rfl
theorem c0:Tryz.prog.cellsOf 115=6:=by kernel_rfl
theorem plain:(Rows.topConservedRow.laid.all λx=>x.2.handleName?.isNone)=true:=by kernel_rfl
theorem M17 {W:World}(h:laidMetH Tryz.prog Rows.topConservedRow.laid W):GlP ⟨λ_=>none,λ_=>none,W,[]⟩:=by
 have h1:laidMet Tryz.prog Rows.topConservedRow.laid W:=Eq.mp (MakeChecks.laidMetH_plain Tryz.prog Rows.topConservedRow.laid W plain) h;have h2 : laidMet Tryz.prog [("humpyard/yardgen.dests", .agg (pU.map λz => .lit (.string z)))] W := h1
 obtain ⟨ps,⟨g',t',cs,fuel,p,q,hg',ht',hvar,hd,_,_⟩,_⟩:=h2;obtain rfl:=M1x (g0.symm.trans hg');obtain rfl:=M1x (gt0.symm.trans ht');have hcs:=OI u0 u9 c9 c0 hd;intro x hx;have hx:x∈[(0,pU.map GV.str)]:=hx;rw [M19] at hx;subst hx;have cell:∀ i v,(pU.map Vs)[i]? = some v→W.cell? ⟨0,i,none⟩=some v:=λi v hv=>by
  have:=World.var?_cell g0 hvar i;rw [this,←M1E,hcs];exact hv
 refine ⟨⟨0,0,none⟩,pU.map Vs,rfl,⟨rfl,λh=>(by cases h),?_,λk v hv=>by rw [M25];exact cell k v hv⟩,⟨rfl,rfl,rfl,rfl,rfl,rfl,trivial⟩⟩;have h0:=cell 0 _ rfl;rcases M1V 0 W.heap.size with h'|h'
 exact h';simp [World.cell?,M28 h'] at h0
theorem M9m (B:Option Addr)(E:Nat)(p0:List Int)(w:World)(hgl:GlP ⟨λ_=>none,λ_=>none,w,[]⟩)(U:SlR (AZ .i64) w [] B E p0) :
  Calls Tryz.prog 3 #[.slice B (p0).length E] w λe w'=>e=.returned (.bool true)∧Below w.heap.size w w':=by
 obtain ⟨f0,Z,O,H⟩:=T.s3 p0 true (T.ye p0);obtain ⟨rfl,rfl⟩:=Prod.mk.inj (M1x (O.symm.trans rfl));have J:RH ⟨λ_=>none,λ_=>none,w,[]⟩ OU w:=⟨λ_ _ _ _ _ h=>(by cases h),λ_ _ _ _ h=>(by cases h),λ_ _ h=>(by cases h),λ_ _=>⟨rfl,rfl⟩,⟨Ev.refl _ _,λ_ _ h=>(by cases h),λ_ _ _ _ _ h=>(by cases h),λ_ _ _ _ _ h=>(by cases h),λ_ _ _ _ _ _ h=>(by cases h),λ_ _ _ _ _ h=>(by cases h)⟩,hgl⟩
 have hr:=H ⟨λ_=>none,λ_=>none,w,[]⟩ w [.slice B p0.length E] rfl (λm hm=>absurd hm (M2M m)) (by rfl) (λt g hg=>?_) J;refine hr.run.mono λe w' ⟨v,I,hv⟩=>?_
 obtain ⟨q,S',Y,ow,hp,hl,hq,⟨g,q0,l,G,hg,hs,_⟩,_,_,_,A⟩:=hv
 match Y,hl with
 | [u],_=>
  have hp:v=u:=hp;have hs:u.cells.toList=[.bool true]:=hs;have hg:RV q0 g u:=hg;rw [Ds hg G.symm] at hs;obtain rfl:=(List.cons.inj hs).1;refine ⟨by rw [I,hp],Rh ⟨A.os,A.tape,A.output,A.size,λk hk _=>A.out k hk λhb=>?_⟩⟩;rcases hb with ⟨b,x,e,_⟩|⟨b,y,e,_⟩ <;> cases e
 rw [M4m _ _ _ _ _ (by unfold AD;omega)] at hg;split at hg;rename_i e;cases hg;subst e;exact ⟨B,E,rfl,U⟩;cases hg
theorem yf (os:Os)(av:os.Started)(H:Type)(enc:TypeId×Value→H) :
  ReturnsInHanded {} Tryz.checked os 3 .any (λw args=>(Rows.topConservedSpec.pre enc Tryz.prog Tryz.f3 Rows.topConservedRow.domain false w args∧laidMetH Tryz.prog Rows.topConservedRow.laid w)∧sizedMet enc Tryz.prog Tryz.f3 (OpenSpec.ofChange Rows.topConservedSpec) false w args)
   (Rows.topConservedSpec.post enc Tryz.prog Tryz.f3 false true false false):=by
 refine returnsInHanded_of_calls (C:=Tryz.checked) own av (by kernel_rfl)
  (ChangeSpec.witness_shaped (enc:=enc) (C:=Tryz.checked) (os:=os) (X:=λw _=>laidMetH Tryz.prog Rows.topConservedRow.laid w) false (World.laidAll Tryz.prog os Rows.topConservedRow.laid) #[.slice none 0 0] 8 (World.laidAll_os _ _ _)
   (World.shaped_of_ZipB (by kernel_rfl) (by kernel_rfl)) (by kernel_rfl) (by kernel_rfl) (by kernel_rfl)
   (by rw [MakeChecks.laidMetH_plain _ _ _ plain];exact laidMet_laidAll _ (by kernel_rfl) (by kernel_rfl))) ?_
 intro w0 tape i _ aF _ ao ap _;obtain ⟨_,_,_,fn,an,_,_,_,_,B⟩:=ao;obtain rfl:fn=Tryz.f3:=M1x (an.symm.trans Tryz.func3);obtain ⟨⟨⟨ds,gs,ax,hw,_⟩,I⟩,_⟩:=ap;have A:=DataW.Whole.of_heap (w':=w0.forCall tape i) (by rfl) hw;have I:laidMetH Tryz.prog Rows.topConservedRow.laid (w0.forCall tape i):=I.of_heap (by rfl);have hgl:=M17 I;generalize aB:w0.forCall tape i=W at A hgl B;generalize i.args=args at A B;have ab:∀ (j:Nat) t v,Tryz.f3.params[j]? = some t→args[j]? = some v→Value.okWide Tryz.prog W .any w0.heap.size t v:=B
 suffices key:Calls Tryz.prog 3 args W λe E=>∃ v,e=.returned v∧Rows.topConservedSpec.post enc Tryz.prog Tryz.f3 false true false false W args v E from key.mono λe E ⟨v,G,hp⟩=>by
  subst G;exact ChangeSpec.post_blind hp
 have ak:=A;obtain ⟨p,q,Z,hV,rfl,aD,aE⟩:=A;have Y:DataW.TrodAll enc Tryz.prog W 0 (λ_=>true) true Tryz.f3.params.toList args.toList ds p:=Z;rw [Tryz.params3] at Y ab;obtain ⟨v0,aG,d0,az,P0,Q0,aC,rfl,rfl,U,r0⟩:=trodAll_cons Y;obtain ⟨rfl,rfl,rfl⟩:=trodAll_nil r0;obtain rfl:args = #[v0]:=by cases args;simp_all
 obtain ⟨rfl,rfl⟩:=trodVars_none hV;have k0:=U;have au:∀ x∈P0,x.block<W.heap.size:=by obtain ⟨m,hm⟩:=k0;exact DataW.trod_lt m _ _ _ hm
 obtain ⟨a0,ar,O,rfl⟩:=okWide_slice Tryz.underlying22 (ab 0 22 v0 rfl rfl);obtain ⟨aA,am⟩:=U;obtain ⟨x0,ai,q0⟩:=M9l _ _ _ _ _ _ _ _ _ am;obtain ⟨ag,ah,al,aq⟩:=ai;have aa:[Value.slice a0 ar O]=[.slice ag x0.length ah]:=al;simp only [M3n,Value.slice.injEq,and_true] at aa;obtain ⟨rfl,rfl,rfl⟩:=aa;clear Z B;refine (M9m a0 O x0 W hgl aq).mono λe E ⟨G,J⟩=>?_
 subst G;exact ⟨_,rfl,_,_,_,[],_,[],ak,trodAll_mk1 (shut_bool Tryz.underlying4 _),(trodAll_cons_mk (Below.trod pS (by kernel_rfl) (M1s (by kernel_rfl)) k0 J au) trodAll_mk0),rfl,J.frame _,λh=>by cases h⟩
end Go.Proofs.YtmihkgopplkcjaaGreatDoor.topConserved
