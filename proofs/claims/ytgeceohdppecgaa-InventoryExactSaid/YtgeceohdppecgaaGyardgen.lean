
/- Walks, printed by program: each function returns what the partial function of the same name returns. Conditions: those of each theorem. -/
import Derived.Test.YtgeceohdppecgaaGT
import Derived.Test.YtgeceohdppecgaaGr45
set_option linter.unusedVariables false
set_option linter.unusedSimpArgs false
set_option maxRecDepth 4000
namespace Go.Proofs.Ytgeceohdppecgaa
open Go Go.V Go.Proofs
def yardgen_SameShifts (p0 : List (Int × Int × Int × Bool)) (p1 : List (Int × Int × Int × Bool)) : Option Bool :=
((r45_SameShifts p0 p1).bind fun x3 =>
some x3)

theorem yardgen_SameShifts_w (a_p0 : Option Addr) (c_p0 : Nat) (p0 : List (Int × Int × Int × Bool)) (a_p1 : Option Addr) (c_p1 : Nat) (p1 : List (Int × Int × Int × Bool)) (r : Bool) (w : World) (M : List Nat) (hms : MS w [M]) (hs_p0 : SlR (eProd (eInt .i64) (eProd (eInt .i64) (eProd (eInt .i64) eBool))) w (fl [M]) a_p0 c_p0 p0) (hs_p1 : SlR (eProd (eInt .i64) (eProd (eInt .i64) (eProd (eInt .i64) eBool))) w (fl [M]) a_p1 c_p1 p1) (h : yardgen_SameShifts p0 p1 = some r) : CallVC Try.prog 27 [Vl a_p0 p0 c_p0, Vl a_p1 p1 c_p1] w fun v w' => v = .bool r ∧ Ev [] w w' := by
 refine calls_vc hmx Try.func27 (by kernel_rfl) rfl (rs := [.tmp 4]) rfl (by kernel_rfl) (args := [Vl a_p0 p0 c_p0, Vl a_p1 p1 c_p1]) rfl ?_
 have hev : Ev [] w w := Ev.refl _ _
 have hfr : FR w.heap.size [] := FR.nil _
 refine c_sp ?_
 refine x_u 1 [(4, .bool false)] ?_
 refine x_ek ?_
 refine c_sp ?_
 refine x_u 2 [(5, Vl a_p0 p0 c_p0), (6, Vl a_p1 p1 c_p1)] ?_
 obtain ⟨x3, hx, h⟩ := bind_some h
 have hpk : MS w ([] ++ [M]) := hms.pick [some 0] _ rfl
 have hsb0 : ∀ x ∈ fl ([] ++ [M]), x ∈ fl [M] := pick_sub [some 0] _ rfl
 have hsb : ∀ x ∈ fl ([] ++ [(fl [M])]), x ∈ fl [M] := fun x hx => hsb0 x (fl_unfold x hx)
 have hcall := r45_SameShifts_w a_p0 c_p0 p0 a_p1 c_p1 p1 _ w (fl [M]) (MS.fold (P := []) hpk) (hs_p0.sub hsb) (hs_p1.sub hsb) hx
 refine x_call 35 #[] #[] [Vl a_p0 p0 c_p0, Vl a_p1 p1 c_p1] _ rfl rfl rfl rfl hcall ?_
 rintro v w4 ⟨rfl, he4⟩
 clear hcall hx
 refine inl1 ?_
 have hst := Stp.ext (ls := [M]) he4
 replace hs_p0 := hs_p0.step hst
 replace hs_p1 := hs_p1.step hst
 replace hms := hms.ev he4
 replace hev := hev.ext he4
 clear hpk hsb hsb0
 refine x_u 1 [(4, .bool x3)] ?_
 refine x_ek ?_
 refine c_ret ?_
 refine r_ret (r_vals [.bool x3] ⟨rfl, trivial⟩ ?_)
 have hx := some_inj h
 subst hx
 have hmr : MS w4 [M] := hms.pick [some 0] _ rfl
 have hsu : ∀ x ∈ fl [M], x ∈ fl [M] := pick_sub [some 0] _ rfl
 exact ⟨rfl, hev⟩
end Go.Proofs.Ytgeceohdppecgaa
