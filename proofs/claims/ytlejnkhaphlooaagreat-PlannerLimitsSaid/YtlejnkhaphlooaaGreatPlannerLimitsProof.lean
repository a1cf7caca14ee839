import Derived.Test.YtlejnkhaphlooaaGreatRows
import Derived.Test.YtlejnkhaphlooaaGreatR
import Derived.Test.YtlejnkhaphlooaaGreatGPlannerLimits
import Derived.Test.YtlejnkhaphlooaaGreatPX1
import Derived.WalkKit
import Derived.ProofKit
import Derived.OpenShut
import Derived.ShutString
import Derived.ChangeOld
import Derived.Below

/- The law PlannerLimits answers true for every input, and every argument reads afterwards as it read before. No condition. (The shape is the kit's shell's; what is read of structs, the walk and the plain law are mine.) -/
namespace Go.Proofs.YtlejnkhaphlooaaGreat.plannerLimits
open Go.V
open Go.ChangeShapes Go.WideShapes Go.ChangeAt Go.RowKit
open Go.ChangeMaps (open_string shut_string)
set_option linter.unusedVariables false
set_option linter.unusedSimpArgs false

theorem own : ownKnob Tryz.prog.godebug = none := by kernel_rfl
theorem laidOut : laidOutB Tryz.prog = true := by kernel_rfl
theorem rd3 : RD Tryz.prog (eInt .i64) 3 (fun (n : Int) => (Lit.int .i64 n).wf = true) := rd_int Tryz.underlying3
theorem rd22 : RD Tryz.prog (eSl (eInt .i64)) 22 (fun (l : List Int) => ∀ y ∈ l, (fun (n : Int) => (Lit.int .i64 n).wf = true) y) := rd_slice Tryz.underlying22 (by kernel_rfl) rfl rd3

theorem walk (a_p0 : Option Addr) (c_p0 : Nat) (p0 : List Int) (p1 : Int) (p2 : Int) (w : World) (hs_p0 : SlR (eInt .i64) w [] a_p0 c_p0 p0) :
    Calls Tryz.prog 7 #[.slice a_p0 (p0).length c_p0, .int .i64 p1, .int .i64 p2] w fun e w' => e = .returned (.bool true) ∧ Below w.heap.size w w' := by
  have h := law17_PlannerLimits_w a_p0 c_p0 p0 p1 p2 true w [] (ms_nil w) hs_p0 (limits_ok p0 p1 p2 )
  exact h.run.mono fun e w' ⟨v, he, hv, hev⟩ => ⟨by rw [he, hv], below_of_ev hev⟩


set_option maxRecDepth 100000 in
theorem lifted (os : Os) (started : os.Started) (H : Type) (enc : TypeId × Value → H) :
    ReturnsInHanded {} Tryz.checked os 7 .any (Rows.plannerLimitsSpec.pre6 enc Tryz.prog Tryz.f7 Rows.plannerLimitsRow.domain false) (Rows.plannerLimitsSpec.post enc Tryz.prog Tryz.f7 false true false false) := by
  refine returnsInHanded_of_change (C := Tryz.checked) own started (by kernel_rfl) Tryz.func7
    (ChangeSpec.witness6 (enc := enc) (C := Tryz.checked) false ⟨#[], #[.slice none 0 0, .int .i64 0, .int .i64 0], []⟩ 8 (by kernel_rfl) (by kernel_rfl) (by kernel_rfl) (by kernel_rfl)) ?_
  intro W base args ds gs before hval0 hW hcnd _
  have hval : ∀ (j : Nat) t v, Tryz.f7.params[j]? = some t → args[j]? = some v → Value.okWide Tryz.prog W .any base t v := hval0
  have hW' := hW
  obtain ⟨p, q, hA0, hV, rfl, hfz, hnd⟩ := hW
  have hA : DataW.TrodAll enc Tryz.prog W 0 (fun _ => true) true Tryz.f7.params.toList args.toList ds p := hA0
  rw [Tryz.params7] at hA hval
  obtain ⟨v0, vs0, d0, ds0, P0, Q0, hargs, rfl, rfl, h0, r0⟩ := trodAll_cons hA
  obtain ⟨v1, vs1, d1, ds1, P1, Q1, rfl, rfl, rfl, h1, r1⟩ := trodAll_cons r0
  obtain ⟨v2, vs2, d2, ds2, P2, Q2, rfl, rfl, rfl, h2, r2⟩ := trodAll_cons r1
  obtain ⟨rfl, rfl, rfl⟩ := trodAll_nil r2
  obtain rfl : args = #[v0, v1, v2] := by cases args; simp_all
  obtain ⟨rfl, rfl⟩ := trodVars_none hV
  have k0 := h0
  have lt0 : ∀ x ∈ P0, x.block < W.heap.size := by obtain ⟨m, hm⟩ := k0; exact DataW.trod_lt m _ _ _ hm
  obtain ⟨a0, len0, cap0, rfl⟩ := okWide_slice Tryz.underlying22 (hval 0 22 v0 rfl rfl)
  obtain ⟨fu0, hf0⟩ := h0
  obtain ⟨x0, hR0, q0⟩ := rd22 _ _ _ _ _ _ _ _ _ hf0
  obtain ⟨a_p0, c_p0, hc0, hs_p0⟩ := hR0
  have hc0' : [Value.slice a0 len0 cap0] = [.slice a_p0 x0.length c_p0] := hc0
  simp only [List.cons.injEq, Value.slice.injEq, and_true] at hc0'
  obtain ⟨rfl, rfl, rfl⟩ := hc0'
  obtain ⟨p1, rfl, rfl, rfl, w1⟩ := open_int Tryz.underlying3 (hval 1 3 v1 rfl rfl) h1
  obtain ⟨p2, rfl, rfl, rfl, w2⟩ := open_int Tryz.underlying3 (hval 2 3 v2 rfl rfl) h2
  clear hA0 hval0
  refine (walk a0 cap0 x0 p1 p2 W hs_p0).mono fun e W' ⟨he, bel⟩ => ?_
  subst he
  exact ⟨_, rfl, _, _, _, [], _, [], hW', trodAll_mk1 (shut_bool Tryz.underlying4 _), (trodAll_cons_mk (Below.trod laidOut (by kernel_rfl) (of_decide_eq_true (by kernel_rfl)) k0 bel lt0) (trodAll_cons_mk (shut_int Tryz.underlying3 w1) (trodAll_cons_mk (shut_int Tryz.underlying3 w2) trodAll_mk0))), rfl, bel.frame _, fun h => by cases h⟩

theorem over : Rows.plannerLimitsRow.holds Tryz.pinned (OpenSpec.ofChange Rows.plannerLimitsSpec) :=
  OpenClaim.holds_of_wide 7 Tryz.f7 rfl rfl rfl rfl rfl rfl rfl ⟨rfl, rfl, rfl, rfl, rfl⟩ rfl rfl rfl rfl rfl (by kernel_rfl) Tryz.func7 (by kernel_rfl)
    (of_decide_eq_true (by kernel_rfl)) (by unfold Func.isWrapper; first | (rw [if_pos (by decide +kernel)]; kernel_rfl) | (rw [if_neg (by decide +kernel)]; exact ⟨rfl, rfl⟩))
    (fun os started H enc _ => lifted os started H enc)

theorem proved : Rows.PlannerLimitsSaid := over
#print axioms proved
end Go.Proofs.YtlejnkhaphlooaaGreat.plannerLimits
