/- The law InventoryExact answers true for every input, and every argument reads afterwards as it read before. No condition. (The shape is the kit's shell's; what is read of structs, the walk and the plain law are mine.) -/
import Derived.Test.YtgeceohdppecgaaRows
import Derived.Test.YtgeceohdppecgaaR
import Derived.Test.YtgeceohdppecgaaGInventoryExact
import Derived.Test.YtgeceohdppecgaaPIexact
import Derived.WalkKit
import Derived.ProofKit
import Derived.OpenShut
import Derived.ShutString
import Derived.ChangeOld
import Derived.Below
namespace Go.Proofs.Ytgeceohdppecgaa.inventoryExact
open Go.V
open Go.ChangeShapes Go.WideShapes Go.ChangeAt Go.RowKit
open Go.ChangeMaps (open_string shut_string)
set_option linter.unusedVariables false
set_option linter.unusedSimpArgs false

theorem own : ownKnob Try.prog.godebug = none := by kernel_rfl
theorem laidOut : laidOutB Try.prog = true := by kernel_rfl
theorem rd3 : RD Try.prog (eInt .i64) 3 (fun (n : Int) => (Lit.int .i64 n).wf = true) := rd_int Try.underlying3
theorem rd22 : RD Try.prog (eSl (eInt .i64)) 22 (fun (l : List Int) => ∀ y ∈ l, (fun (n : Int) => (Lit.int .i64 n).wf = true) y) := rd_slice Try.underlying22 (by kernel_rfl) rfl rd3
theorem rd9 : RD Try.prog eStr 9 (fun (_ : List UInt8) => True) := rd_str Try.underlying9
theorem rd45 : RD Try.prog (eProd eStr (eInt .i64)) 45 (fun (d : (List UInt8) × Int) => (fun (_ : List UInt8) => True) d.1 ∧ (fun (n : Int) => (Lit.int .i64 n).wf = true) d.2) := by
  refine rd_struct Try.underlying45 (by kernel_rfl) ?_
  refine fd_cons (Q' := fun (n : Int) => (Lit.int .i64 n).wf = true) rd9 ?_ ?_ ?_ ?_
  · rfl
  · rfl
  · kernel_rfl
  refine fd_one rd3 ?_ ?_ ?_
  · rfl
  · rfl
  · kernel_rfl
theorem rd25 : RD Try.prog (eSl (eProd eStr (eInt .i64))) 25 (fun (l : List ((List UInt8) × Int)) => ∀ y ∈ l, (fun (d : (List UInt8) × Int) => (fun (_ : List UInt8) => True) d.1 ∧ (fun (n : Int) => (Lit.int .i64 n).wf = true) d.2) y) := rd_slice Try.underlying25 (by kernel_rfl) rfl rd45
theorem rd26 : RD Try.prog (eSl (eSl (eInt .i64))) 26 (fun (l : List (List Int)) => ∀ y ∈ l, (fun (l : List Int) => ∀ y ∈ l, (fun (n : Int) => (Lit.int .i64 n).wf = true) y) y) := rd_slice Try.underlying26 (by kernel_rfl) rfl rd22
theorem rd4 : RD Try.prog eBool 4 (fun (_ : Bool) => True) := rd_bool Try.underlying4
theorem rd30 : RD Try.prog (eProd (eInt .i64) (eProd (eInt .i64) (eProd (eInt .i64) eBool))) 30 (fun (d : Int × Int × Int × Bool) => (fun (n : Int) => (Lit.int .i64 n).wf = true) d.1 ∧ (fun (d : Int × Int × Bool) => (fun (n : Int) => (Lit.int .i64 n).wf = true) d.1 ∧ (fun (d : Int × Bool) => (fun (n : Int) => (Lit.int .i64 n).wf = true) d.1 ∧ (fun (_ : Bool) => True) d.2) d.2) d.2) := by
  refine rd_struct Try.underlying30 (by kernel_rfl) ?_
  refine fd_cons (Q' := fun (d : Int × Int × Bool) => (fun (n : Int) => (Lit.int .i64 n).wf = true) d.1 ∧ (fun (d : Int × Bool) => (fun (n : Int) => (Lit.int .i64 n).wf = true) d.1 ∧ (fun (_ : Bool) => True) d.2) d.2) rd3 ?_ ?_ ?_ ?_
  · rfl
  · rfl
  · kernel_rfl
  refine fd_cons (Q' := fun (d : Int × Bool) => (fun (n : Int) => (Lit.int .i64 n).wf = true) d.1 ∧ (fun (_ : Bool) => True) d.2) rd3 ?_ ?_ ?_ ?_
  · rfl
  · rfl
  · kernel_rfl
  refine fd_cons (Q' := fun (_ : Bool) => True) rd3 ?_ ?_ ?_ ?_
  · rfl
  · rfl
  · kernel_rfl
  refine fd_one rd4 ?_ ?_ ?_
  · rfl
  · rfl
  · kernel_rfl
theorem rd41 : RD Try.prog (eSl (eProd (eInt .i64) (eProd (eInt .i64) (eProd (eInt .i64) eBool)))) 41 (fun (l : List (Int × Int × Int × Bool)) => ∀ y ∈ l, (fun (d : Int × Int × Int × Bool) => (fun (n : Int) => (Lit.int .i64 n).wf = true) d.1 ∧ (fun (d : Int × Int × Bool) => (fun (n : Int) => (Lit.int .i64 n).wf = true) d.1 ∧ (fun (d : Int × Bool) => (fun (n : Int) => (Lit.int .i64 n).wf = true) d.1 ∧ (fun (_ : Bool) => True) d.2) d.2) d.2) y) := rd_slice Try.underlying41 (by kernel_rfl) rfl rd30

theorem walk (a_p0 : Option Addr) (c_p0 : Nat) (p0 : List Int) (a_p1 : Option Addr) (c_p1 : Nat) (p1 : List ((List UInt8) × Int)) (a_p2 : Option Addr) (c_p2 : Nat) (p2 : List Int) (a_p3 : Option Addr) (c_p3 : Nat) (p3 : List (List Int)) (a_p4 : Option Addr) (c_p4 : Nat) (p4 : List (Int × Int × Int × Bool)) (w : World) (hs_p0 : SlR (eInt .i64) w [] a_p0 c_p0 p0) (hs_p1 : SlR (eProd eStr (eInt .i64)) w [] a_p1 c_p1 p1) (hs_p2 : SlR (eInt .i64) w [] a_p2 c_p2 p2) (hs_p3 : SlR (eSl (eInt .i64)) w [] a_p3 c_p3 p3) (hs_p4 : SlR (eProd (eInt .i64) (eProd (eInt .i64) (eProd (eInt .i64) eBool))) w [] a_p4 c_p4 p4) :
    Calls Try.prog 4 #[.slice a_p0 (p0).length c_p0, .slice a_p1 (p1).length c_p1, .slice a_p2 (p2).length c_p2, .slice a_p3 (p3).length c_p3, .slice a_p4 (p4).length c_p4] w fun e w' => e = .returned (.bool true) ∧ Below w.heap.size w w' := by
  have h := law42_InventoryExact_w a_p0 c_p0 p0 a_p1 c_p1 p1 a_p2 c_p2 p2 a_p3 c_p3 p3 a_p4 c_p4 p4 true w [] (ms_nil w) hs_p0 hs_p1 hs_p2 hs_p3 hs_p4 (inventoryExact_ok p0 p1 p2 p3 p4 )
  exact h.run.mono fun e w' ⟨v, he, hv, hev⟩ => ⟨by rw [he, hv], below_of_ev hev⟩

set_option maxRecDepth 100000 in
theorem lifted (os : Os) (started : os.Started) (H : Type) (enc : TypeId × Value → H) :
    ReturnsInHanded {} Try.checked os 4 .any (Rows.inventoryExactSpec.pre6 enc Try.prog Try.f4 Rows.inventoryExactRow.domain false) (Rows.inventoryExactSpec.post enc Try.prog Try.f4 false true false false) := by
  refine returnsInHanded_of_change (C := Try.checked) own started (by kernel_rfl) Try.func4
    (ChangeSpec.witness6 (enc := enc) (C := Try.checked) false ⟨#[], #[.slice none 0 0, .slice none 0 0, .slice none 0 0, .slice none 0 0, .slice none 0 0], []⟩ 8 (by kernel_rfl) (by kernel_rfl) (by kernel_rfl) (by kernel_rfl)) ?_
  intro W base args ds gs before hval0 hW hcnd _
  have hval : ∀ (j : Nat) t v, Try.f4.params[j]? = some t → args[j]? = some v → Value.okWide Try.prog W .any base t v := hval0
  have hW' := hW
  obtain ⟨p, q, hA0, hV, rfl, hfz, hnd⟩ := hW
  have hA : DataW.TrodAll enc Try.prog W 0 (fun _ => true) true Try.f4.params.toList args.toList ds p := hA0
  rw [Try.params4] at hA hval
  obtain ⟨v0, vs0, d0, ds0, P0, Q0, hargs, rfl, rfl, h0, r0⟩ := trodAll_cons hA
  obtain ⟨v1, vs1, d1, ds1, P1, Q1, rfl, rfl, rfl, h1, r1⟩ := trodAll_cons r0
  obtain ⟨v2, vs2, d2, ds2, P2, Q2, rfl, rfl, rfl, h2, r2⟩ := trodAll_cons r1
  obtain ⟨v3, vs3, d3, ds3, P3, Q3, rfl, rfl, rfl, h3, r3⟩ := trodAll_cons r2
  obtain ⟨v4, vs4, d4, ds4, P4, Q4, rfl, rfl, rfl, h4, r4⟩ := trodAll_cons r3
  obtain ⟨rfl, rfl, rfl⟩ := trodAll_nil r4
  obtain rfl : args = #[v0, v1, v2, v3, v4] := by cases args; simp_all
  obtain ⟨rfl, rfl⟩ := trodVars_none hV
  have k0 := h0
  have lt0 : ∀ x ∈ P0, x.block < W.heap.size := by obtain ⟨m, hm⟩ := k0; exact DataW.trod_lt m _ _ _ hm
  obtain ⟨a0, len0, cap0, rfl⟩ := okWide_slice Try.underlying22 (hval 0 22 v0 rfl rfl)
  obtain ⟨fu0, hf0⟩ := h0
  obtain ⟨x0, hR0, q0⟩ := rd22 _ _ _ _ _ _ _ _ _ hf0
  obtain ⟨a_p0, c_p0, hc0, hs_p0⟩ := hR0
  have hc0' : [Value.slice a0 len0 cap0] = [.slice a_p0 x0.length c_p0] := hc0
  simp only [List.cons.injEq, Value.slice.injEq, and_true] at hc0'
  obtain ⟨rfl, rfl, rfl⟩ := hc0'
  have k1 := h1
  have lt1 : ∀ x ∈ P1, x.block < W.heap.size := by obtain ⟨m, hm⟩ := k1; exact DataW.trod_lt m _ _ _ hm
  obtain ⟨a1, len1, cap1, rfl⟩ := okWide_slice Try.underlying25 (hval 1 25 v1 rfl rfl)
  obtain ⟨fu1, hf1⟩ := h1
  obtain ⟨x1, hR1, q1⟩ := rd25 _ _ _ _ _ _ _ _ _ hf1
  obtain ⟨a_p1, c_p1, hc1, hs_p1⟩ := hR1
  have hc1' : [Value.slice a1 len1 cap1] = [.slice a_p1 x1.length c_p1] := hc1
  simp only [List.cons.injEq, Value.slice.injEq, and_true] at hc1'
  obtain ⟨rfl, rfl, rfl⟩ := hc1'
  have k2 := h2
  have lt2 : ∀ x ∈ P2, x.block < W.heap.size := by obtain ⟨m, hm⟩ := k2; exact DataW.trod_lt m _ _ _ hm
  obtain ⟨a2, len2, cap2, rfl⟩ := okWide_slice Try.underlying22 (hval 2 22 v2 rfl rfl)
  obtain ⟨fu2, hf2⟩ := h2
  obtain ⟨x2, hR2, q2⟩ := rd22 _ _ _ _ _ _ _ _ _ hf2
  obtain ⟨a_p2, c_p2, hc2, hs_p2⟩ := hR2
  have hc2' : [Value.slice a2 len2 cap2] = [.slice a_p2 x2.length c_p2] := hc2
  simp only [List.cons.injEq, Value.slice.injEq, and_true] at hc2'
  obtain ⟨rfl, rfl, rfl⟩ := hc2'
  have k3 := h3
  have lt3 : ∀ x ∈ P3, x.block < W.heap.size := by obtain ⟨m, hm⟩ := k3; exact DataW.trod_lt m _ _ _ hm
  obtain ⟨a3, len3, cap3, rfl⟩ := okWide_slice Try.underlying26 (hval 3 26 v3 rfl rfl)
  obtain ⟨fu3, hf3⟩ := h3
  obtain ⟨x3, hR3, q3⟩ := rd26 _ _ _ _ _ _ _ _ _ hf3
  obtain ⟨a_p3, c_p3, hc3, hs_p3⟩ := hR3
  have hc3' : [Value.slice a3 len3 cap3] = [.slice a_p3 x3.length c_p3] := hc3
  simp only [List.cons.injEq, Value.slice.injEq, and_true] at hc3'
  obtain ⟨rfl, rfl, rfl⟩ := hc3'
  have k4 := h4
  have lt4 : ∀ x ∈ P4, x.block < W.heap.size := by obtain ⟨m, hm⟩ := k4; exact DataW.trod_lt m _ _ _ hm
  obtain ⟨a4, len4, cap4, rfl⟩ := okWide_slice Try.underlying41 (hval 4 41 v4 rfl rfl)
  obtain ⟨fu4, hf4⟩ := h4
  obtain ⟨x4, hR4, q4⟩ := rd41 _ _ _ _ _ _ _ _ _ hf4
  obtain ⟨a_p4, c_p4, hc4, hs_p4⟩ := hR4
  have hc4' : [Value.slice a4 len4 cap4] = [.slice a_p4 x4.length c_p4] := hc4
  simp only [List.cons.injEq, Value.slice.injEq, and_true] at hc4'
  obtain ⟨rfl, rfl, rfl⟩ := hc4'
  clear hA0 hval0
  refine (walk a0 cap0 x0 a1 cap1 x1 a2 cap2 x2 a3 cap3 x3 a4 cap4 x4 W hs_p0 hs_p1 hs_p2 hs_p3 hs_p4).mono fun e W' ⟨he, bel⟩ => ?_
  subst he
  exact ⟨_, rfl, _, _, _, [], _, [], hW', trodAll_mk1 (shut_bool Try.underlying4 _), (trodAll_cons_mk (Below.trod laidOut (by kernel_rfl) (of_decide_eq_true (by kernel_rfl)) k0 bel lt0) (trodAll_cons_mk (Below.trod laidOut (by kernel_rfl) (of_decide_eq_true (by kernel_rfl)) k1 bel lt1) (trodAll_cons_mk (Below.trod laidOut (by kernel_rfl) (of_decide_eq_true (by kernel_rfl)) k2 bel lt2) (trodAll_cons_mk (Below.trod laidOut (by kernel_rfl) (of_decide_eq_true (by kernel_rfl)) k3 bel lt3) (trodAll_cons_mk (Below.trod laidOut (by kernel_rfl) (of_decide_eq_true (by kernel_rfl)) k4 bel lt4) trodAll_mk0))))), rfl, bel.frame _, fun h => by cases h⟩

theorem over : Rows.inventoryExactRow.holds Try.pinned (OpenSpec.ofChange Rows.inventoryExactSpec) :=
  OpenClaim.holds_of_wide 4 Try.f4 rfl rfl rfl rfl rfl rfl rfl ⟨rfl, rfl, rfl, rfl, rfl⟩ rfl rfl rfl rfl rfl (by kernel_rfl) Try.func4 (by kernel_rfl)
    (of_decide_eq_true (by kernel_rfl)) (by unfold Func.isWrapper; first | (rw [if_pos (by decide +kernel)]; kernel_rfl) | (rw [if_neg (by decide +kernel)]; exact ⟨rfl, rfl⟩))
    (fun os started H enc _ => lifted os started H enc)

theorem proved : Rows.InventoryExactSaid := over
#print axioms proved
end Go.Proofs.Ytgeceohdppecgaa.inventoryExact
