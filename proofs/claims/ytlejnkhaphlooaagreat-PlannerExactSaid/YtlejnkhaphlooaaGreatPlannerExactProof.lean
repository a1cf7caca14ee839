import Derived.Test.YtlejnkhaphlooaaGreatRows
import Derived.Test.YtlejnkhaphlooaaGreatR
import Derived.Test.YtlejnkhaphlooaaGreatGPlannerExact
import Derived.Test.YtlejnkhaphlooaaGreatPX1
import Derived.WalkKit
import Derived.ProofKit
import Derived.OpenShut
import Derived.ShutString
import Derived.ChangeOld
import Derived.Below

/- The law PlannerExact answers true for every input, and every argument reads afterwards as it read before. No condition. (The shape is the kit's shell's; what is read of structs, the walk and the plain law are mine.) -/
namespace Go.Proofs.YtlejnkhaphlooaaGreat.plannerExact
open Go.V
open Go.ChangeShapes Go.WideShapes Go.ChangeAt Go.RowKit
open Go.ChangeMaps (open_string shut_string)
set_option linter.unusedVariables false
set_option linter.unusedSimpArgs false

theorem own:ownKnob Tryz.prog.godebug=none:=by kernel_rfl
theorem laidOut:laidOutB Tryz.prog=true:=by kernel_rfl
theorem rd3:RD Tryz.prog (eInt .i64) 3 (fun (n:Int)=>(Lit.int .i64 n).wf=true):=rd_int Tryz.underlying3
theorem rd22:RD Tryz.prog (eSl (eInt .i64)) 22 (fun (l:List Int)=>∀ y∈l,(fun (n:Int)=>(Lit.int .i64 n).wf=true) y):=rd_slice Tryz.underlying22 (by kernel_rfl) rfl rd3
theorem rd76:RD Tryz.prog (eProd (eInt .i64) (eProd (eInt .i64) (eProd (eInt .i64) (eInt .i64)))) 76 (fun (d:Int×Int×Int×Int)=>(fun (n:Int)=>(Lit.int .i64 n).wf=true) d.1∧(fun (d:Int×Int×Int)=>(fun (n:Int)=>(Lit.int .i64 n).wf=true) d.1∧(fun (d:Int×Int)=>(fun (n:Int)=>(Lit.int .i64 n).wf=true) d.1∧(fun (n:Int)=>(Lit.int .i64 n).wf=true) d.2) d.2) d.2):=by
  refine rd_struct Tryz.underlying76 (by kernel_rfl) ?_;refine fd_cons (Q':=fun (d:Int×Int×Int)=>(fun (n:Int)=>(Lit.int .i64 n).wf=true) d.1∧(fun (d:Int×Int)=>(fun (n:Int)=>(Lit.int .i64 n).wf=true) d.1∧(fun (n:Int)=>(Lit.int .i64 n).wf=true) d.2) d.2) rd3 ?_ ?_ ?_ ?_
  · rfl
  · rfl
  · kernel_rfl
  refine fd_cons (Q':=fun (d:Int×Int)=>(fun (n:Int)=>(Lit.int .i64 n).wf=true) d.1∧(fun (n:Int)=>(Lit.int .i64 n).wf=true) d.2) rd3 ?_ ?_ ?_ ?_
  · rfl
  · rfl
  · kernel_rfl
  refine fd_cons (Q':=fun (n:Int)=>(Lit.int .i64 n).wf=true) rd3 ?_ ?_ ?_ ?_
  · rfl
  · rfl
  · kernel_rfl
  refine fd_one rd3 ?_ ?_ ?_
  · rfl
  · rfl
  · kernel_rfl
theorem rd36:RD Tryz.prog (eSl (eProd (eInt .i64) (eProd (eInt .i64) (eProd (eInt .i64) (eInt .i64))))) 36 (fun (l:List (Int×Int×Int×Int))=>∀ y∈l,(fun (d:Int×Int×Int×Int)=>(fun (n:Int)=>(Lit.int .i64 n).wf=true) d.1∧(fun (d:Int×Int×Int)=>(fun (n:Int)=>(Lit.int .i64 n).wf=true) d.1∧(fun (d:Int×Int)=>(fun (n:Int)=>(Lit.int .i64 n).wf=true) d.1∧(fun (n:Int)=>(Lit.int .i64 n).wf=true) d.2) d.2) d.2) y):=rd_slice Tryz.underlying36 (by kernel_rfl) rfl rd76

theorem walk (a_p0:Option Addr)(c_p0:Nat)(p0:List Int)(a_p1:Option Addr)(c_p1:Nat)(p1:List (Int×Int×Int×Int))(a_p2:Option Addr)(c_p2:Nat)(p2:List Int)(w:World)(hs_p0:SlR (eInt .i64) w [] a_p0 c_p0 p0)(hs_p1:SlR (eProd (eInt .i64) (eProd (eInt .i64) (eProd (eInt .i64) (eInt .i64)))) w [] a_p1 c_p1 p1)(hs_p2:SlR (eInt .i64) w [] a_p2 c_p2 p2) :
    Calls Tryz.prog 8 #[.slice a_p0 (p0).length c_p0,.slice a_p1 (p1).length c_p1,.slice a_p2 (p2).length c_p2] w fun e w'=>e=.returned (.bool true)∧Below w.heap.size w w':=by
  have h:=law17_PlannerExact_w a_p0 c_p0 p0 a_p1 c_p1 p1 a_p2 c_p2 p2 true w [] (ms_nil w) hs_p0 hs_p1 hs_p2 (exact_ok p0 p1 p2 );exact h.run.mono fun e w' ⟨v,he,hv,hev⟩=>⟨by rw [he,hv],below_of_ev hev⟩


set_option maxRecDepth 100000 in
theorem lifted (os:Os)(started:os.Started)(H:Type)(enc:TypeId×Value→H) :
    ReturnsInHanded {} Tryz.checked os 8 .any (Rows.plannerExactSpec.pre6 enc Tryz.prog Tryz.f8 Rows.plannerExactRow.domain false) (Rows.plannerExactSpec.post enc Tryz.prog Tryz.f8 false true false false):=by
  refine returnsInHanded_of_change (C:=Tryz.checked) own started (by kernel_rfl) Tryz.func8
    (ChangeSpec.witness6 (enc:=enc) (C:=Tryz.checked) false ⟨#[],#[.slice none 0 0,.slice none 0 0,.slice none 0 0],[]⟩ 8 (by kernel_rfl) (by kernel_rfl) (by kernel_rfl) (by kernel_rfl)) ?_
  intro W base args ds gs before hval0 hW hcnd _;have hval:∀ (j:Nat) t v,Tryz.f8.params[j]? = some t→args[j]? = some v→Value.okWide Tryz.prog W .any base t v:=hval0;have hW':=hW;obtain ⟨p,q,hA0,hV,rfl,hfz,hnd⟩:=hW;have hA:DataW.TrodAll enc Tryz.prog W 0 (fun _=>true) true Tryz.f8.params.toList args.toList ds p:=hA0;rw [Tryz.params8] at hA hval;obtain ⟨v0,vs0,d0,ds0,P0,Q0,hargs,rfl,rfl,h0,r0⟩:=trodAll_cons hA;obtain ⟨v1,vs1,d1,ds1,P1,Q1,rfl,rfl,rfl,h1,r1⟩:=trodAll_cons r0;obtain ⟨v2,vs2,d2,ds2,P2,Q2,rfl,rfl,rfl,h2,r2⟩:=trodAll_cons r1;obtain ⟨rfl,rfl,rfl⟩:=trodAll_nil r2;obtain rfl:args = #[v0,v1,v2]:=by cases args; simp_all
  obtain ⟨rfl,rfl⟩:=trodVars_none hV;have k0:=h0;have lt0:∀ x∈P0,x.block<W.heap.size:=by obtain ⟨m,hm⟩:=k0; exact DataW.trod_lt m _ _ _ hm
  obtain ⟨a0,len0,cap0,rfl⟩:=okWide_slice Tryz.underlying22 (hval 0 22 v0 rfl rfl);obtain ⟨fu0,hf0⟩:=h0;obtain ⟨x0,hR0,q0⟩:=rd22 _ _ _ _ _ _ _ _ _ hf0;obtain ⟨a_p0,c_p0,hc0,hs_p0⟩:=hR0;have hc0':[Value.slice a0 len0 cap0]=[.slice a_p0 x0.length c_p0]:=hc0;simp only [List.cons.injEq,Value.slice.injEq,and_true] at hc0';obtain ⟨rfl,rfl,rfl⟩:=hc0';have k1:=h1;have lt1:∀ x∈P1,x.block<W.heap.size:=by obtain ⟨m,hm⟩:=k1; exact DataW.trod_lt m _ _ _ hm
  obtain ⟨a1,len1,cap1,rfl⟩:=okWide_slice Tryz.underlying36 (hval 1 36 v1 rfl rfl);obtain ⟨fu1,hf1⟩:=h1;obtain ⟨x1,hR1,q1⟩:=rd36 _ _ _ _ _ _ _ _ _ hf1;obtain ⟨a_p1,c_p1,hc1,hs_p1⟩:=hR1;have hc1':[Value.slice a1 len1 cap1]=[.slice a_p1 x1.length c_p1]:=hc1;simp only [List.cons.injEq,Value.slice.injEq,and_true] at hc1';obtain ⟨rfl,rfl,rfl⟩:=hc1';have k2:=h2;have lt2:∀ x∈P2,x.block<W.heap.size:=by obtain ⟨m,hm⟩:=k2; exact DataW.trod_lt m _ _ _ hm
  obtain ⟨a2,len2,cap2,rfl⟩:=okWide_slice Tryz.underlying22 (hval 2 22 v2 rfl rfl);obtain ⟨fu2,hf2⟩:=h2;obtain ⟨x2,hR2,q2⟩:=rd22 _ _ _ _ _ _ _ _ _ hf2;obtain ⟨a_p2,c_p2,hc2,hs_p2⟩:=hR2;have hc2':[Value.slice a2 len2 cap2]=[.slice a_p2 x2.length c_p2]:=hc2;simp only [List.cons.injEq,Value.slice.injEq,and_true] at hc2';obtain ⟨rfl,rfl,rfl⟩:=hc2';clear hA0 hval0;refine (walk a0 cap0 x0 a1 cap1 x1 a2 cap2 x2 W hs_p0 hs_p1 hs_p2).mono fun e W' ⟨he,bel⟩=>?_
  subst he;exact ⟨_,rfl,_,_,_,[],_,[],hW',trodAll_mk1 (shut_bool Tryz.underlying4 _),(trodAll_cons_mk (Below.trod laidOut (by kernel_rfl) (of_decide_eq_true (by kernel_rfl)) k0 bel lt0) (trodAll_cons_mk (Below.trod laidOut (by kernel_rfl) (of_decide_eq_true (by kernel_rfl)) k1 bel lt1) (trodAll_cons_mk (Below.trod laidOut (by kernel_rfl) (of_decide_eq_true (by kernel_rfl)) k2 bel lt2) trodAll_mk0))),rfl,bel.frame _,fun h=>by cases h⟩

theorem over:Rows.plannerExactRow.holds Tryz.pinned (OpenSpec.ofChange Rows.plannerExactSpec):=
  OpenClaim.holds_of_wide 8 Tryz.f8 rfl rfl rfl rfl rfl rfl rfl ⟨rfl,rfl,rfl,rfl,rfl⟩ rfl rfl rfl rfl rfl (by kernel_rfl) Tryz.func8 (by kernel_rfl)
    (of_decide_eq_true (by kernel_rfl)) (by unfold Func.isWrapper; first | (rw [if_pos (by decide +kernel)]; kernel_rfl) | (rw [if_neg (by decide +kernel)]; exact ⟨rfl,rfl⟩))
    (fun os started H enc _=>lifted os started H enc)

theorem proved:Rows.PlannerExactSaid:=over
#print axioms proved
end Go.Proofs.YtlejnkhaphlooaaGreat.plannerExact
