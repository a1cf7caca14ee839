import Derived.Test.YtfhkfjankgikcaaGreatRows
import Derived.Test.YtfhkfjankgikcaaGreatR
import Derived.Test.YtfhkfjankgikcaaGreatGTopCouples
import Derived.Test.YtfhkfjankgikcaaGreatPX0
import Derived.WalkKit
import Derived.ProofKit
import Derived.OpenShut
import Derived.ShutString
import Derived.ChangeOld
import Derived.Below

/- The law TopCouples answers true for every input, and every argument reads afterwards as it read before. No condition. (The shape is the kit's shell's; what is read of structs, the walk and the plain law are mine.) -/
namespace Go.Proofs.YtfhkfjankgikcaaGreat.topCouples
open Go.V
open Go.ChangeShapes Go.WideShapes Go.ChangeAt Go.RowKit
open Go.ChangeMaps (open_string shut_string)
set_option linter.unusedVariables false
set_option linter.unusedSimpArgs false

theorem own : ownKnob Tryz.prog.godebug = none := by kernel_rfl
theorem laidOut : laidOutB Tryz.prog = true := by kernel_rfl
theorem rd3 : RD Tryz.prog (eInt .i64) 3 (fun (n : Int) => (Lit.int .i64 n).wf = true) := rd_int Tryz.underlying3
theorem rd22 : RD Tryz.prog (eSl (eInt .i64)) 22 (fun (l : List Int) => ∀ y ∈ l, (fun (n : Int) => (Lit.int .i64 n).wf = true) y) := rd_slice Tryz.underlying22 (by kernel_rfl) rfl rd3

theorem walk (a_p0 : Option Addr) (c_p0 : Nat) (p0 : List Int) (w : World) (hs_p0 : SlR (eInt .i64) w [] a_p0 c_p0 p0) :
    Calls Tryz.prog 3 #[.slice a_p0 (p0).length c_p0] w fun e w' => e = .returned (.bool true) ∧ Below w.heap.size w w' := by
  have h := top_TopCouples_w a_p0 c_p0 p0 true w [] (ms_nil w) hs_p0 (couples_ok p0 )
  exact h.run.mono fun e w' ⟨v, he, hv, hev⟩ => ⟨by rw [he, hv], below_of_ev hev⟩


set_option maxRecDepth 100000 in
theorem lifted (os : Os) (started : os.Started) (H : Type) (enc : TypeId × Value → H) :
    ReturnsInHanded {} Tryz.checked os 3 .any (Rows.topCouplesSpec.pre6 enc Tryz.prog Tryz.f3 Rows.topCouplesRow.domain false) (Rows.topCouplesSpec.post enc Tryz.prog Tryz.f3 false true false false) := by
  refine returnsInHanded_of_change (C := Tryz.checked) own started (by kernel_rfl) Tryz.func3
    (ChangeSpec.witness6 (enc := enc) (C := Tryz.checked) false ⟨#[], #[.slice none 0 0], []⟩ 8 (by kernel_rfl) (by kernel_rfl) (by kernel_rfl) (by kernel_rfl)) ?_
  intro W base args ds gs before hval0 hW hcnd _
  have hval : ∀ (j : Nat) t v, Tryz.f3.params[j]? = some t → args[j]? = some v → Value.okWide Tryz.prog W .any base t v := hval0
  have hW' := hW
  obtain ⟨p, q, hA0, hV, rfl, hfz, hnd⟩ := hW
  have hA : DataW.TrodAll enc Tryz.prog W 0 (fun _ => true) true Tryz.f3.params.toList args.toList ds p := hA0
  rw [Tryz.params3] at hA hval
  obtain ⟨v0, vs0, d0, ds0, P0, Q0, hargs, rfl, rfl, h0, r0⟩ := trodAll_cons hA
  obtain ⟨rfl, rfl, rfl⟩ := trodAll_nil r0
  obtain rfl : args = #[v0] := by cases args; simp_all
  obtain ⟨rfl, rfl⟩ := trodVars_none hV
  have k0 := h0
  have lt0 : ∀ x ∈ P0, x.block < W.heap.size := by obtain ⟨m, hm⟩ := k0; exact DataW.trod_lt m _ _ _ hm
  obtain ⟨a0, len0, cap0, rfl⟩ := okWide_slice Tryz.underlying22 (hval 0 22 v0 rfl rfl)
  obtain ⟨fu0, hf0⟩ := h0
  obtain ⟨x0, hR0, q0⟩ := rd22 _ _ _ _ _ _ _ _ _ hf0
  obtain ⟨a_p0, c_p0, hc0, hs_p0⟩ := hR0
  have hc0' : [Value.slice a0 len0 cap0] = [.slice a_p0 x0.length c_p0] := hc0
  simp only [List.cons.injEq, Value.slice.injEq, and_true] at hc0'
  obtain ⟨rfl, rfl, rfl⟩ := hc0'
  clear hA0 hval0
  refine (walk a0 cap0 x0 W hs_p0).mono fun e W' ⟨he, bel⟩ => ?_
  subst he
  exact ⟨_, rfl, _, _, _, [], _, [], hW', trodAll_mk1 (shut_bool Tryz.underlying4 _), (trodAll_cons_mk (Below.trod laidOut (by kernel_rfl) (of_decide_eq_true (by kernel_rfl)) k0 bel lt0) trodAll_mk0), rfl, bel.frame _, fun h => by cases h⟩

theorem closedI : (Rows.topCouplesRow.inPlace == Tryz.pinned.checked.prog.inPlace 3) = true := by kernel_rfl
theorem closedU : (Rows.topCouplesRow.unfollowed == Tryz.pinned.checked.prog.unfollowed 3) = true := by kernel_rfl
theorem closedR : (Rows.topCouplesRow.recurses == Tryz.pinned.checked.prog.recurses 3) = true := by kernel_rfl
theorem closedN : (Rows.topCouplesRow.named == Tryz.pinned.checked.prog.varsNamed 3) = true := by kernel_rfl
theorem closed : joinedFacts Tryz.pinned.checked.prog 3 Tryz.f3 Rows.topCouplesSpec Rows.topCouplesRow = true := by
  unfold joinedFacts
  rw [closedI, closedU, closedR, closedN]
  kernel_rfl
theorem over : Rows.topCouplesRow.holds Tryz.pinned (OpenSpec.ofChange Rows.topCouplesSpec) :=
  OpenClaim.holds_of_wide 3 Tryz.f3 rfl rfl rfl rfl rfl rfl rfl ⟨rfl, rfl, rfl, rfl, rfl⟩ rfl rfl rfl rfl rfl (by kernel_rfl) Tryz.func3 closed
    (of_decide_eq_true (by kernel_rfl)) (by unfold Func.isWrapper; first | (rw [if_pos (by decide +kernel)]; kernel_rfl) | (rw [if_neg (by decide +kernel)]; exact ⟨rfl, rfl⟩))
    (fun os started H enc _ => lifted os started H enc)

theorem proved : Rows.TopCouplesSaid := over
#print axioms proved
end Go.Proofs.YtfhkfjankgikcaaGreat.topCouples
