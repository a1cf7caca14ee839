
/- Walks, printed by program: each function returns what the partial function of the same name returns. Conditions: those of each theorem. -/
import Derived.Test.YtcignnfdpgeogaaGT
set_option linter.unusedVariables false
set_option linter.unusedSimpArgs false
set_option maxRecDepth 4000
namespace Go.Proofs.Ytcignnfdpgeogaa
open Go Go.V Go.Proofs
def leastcode_solve_1 (p0 : Int) (p1 : Int) (p2_0 : List (Int × Int × Int × Int)) (p2_1 : Int) : Option Int :=
((idx p2_0 p0).bind fun x3 =>
((idx p2_0 p1).bind fun x5 =>
some (IntKind.i64.wrap (x3.2.1 - x5.2.1))))

theorem leastcode_solve_1_w (p0 : Int) (p1 : Int) (b_p2 : Nat) (a_p2_0 : Option Addr) (c_p2_0 : Nat) (p2_0 : List (Int × Int × Int × Int)) (p2_1 : Int) (r : Int) (w : World) (M : List Nat) (hms : MS w [[b_p2], M]) (hs_p2_0 : SlR (eIt4) w (fl [[b_p2], M]) a_p2_0 c_p2_0 p2_0) (hb_p2 : w.heap[b_p2]? = some (.cells #[Vl a_p2_0 p2_0 c_p2_0, Vi p2_1] 25 (0, 0))) (h : leastcode_solve_1 p0 p1 p2_0 p2_1 = some r) : CallVC Try.prog 69 [Vi p0, Vi p1, Vp b_p2 0] w fun v w' => (∃ q, w' = w.drewN q) ∧ v = Vi r ∧ Ev [b_p2] w w' ∧ w'.heap[b_p2]? = some (.cells #[Vl a_p2_0 p2_0 c_p2_0, Vi p2_1] 25 (0, 0)) := by
 refine calls_vc hmx Try.func69 (by kernel_rfl) rfl (rs := [.tmp 5]) rfl (by kernel_rfl) (args := [Vi p0, Vi p1, Vp b_p2 0]) rfl ?_
 have hev : Ev [b_p2] w w := Ev.refl _ _
 have hfr : FR w.heap.size [] := FR.nil _
 refine c_sp ?_
 refine x_u 1 [(5, Vi 0)] ?_
 refine x_ek ?_
 refine c_seq ?_
 refine c_drawn [] [(0, false), (1, false), (2, false), (3, false), (4, false), (5, false), (6, false), (7, false), (8, false), (9, false), (10, false), (11, false), (12, false), (13, false)] _ (by kernel_rfl) rfl ?_
 have hst := Stp.ext (ls := [[b_p2], M]) (Ev.drew w)
 replace hs_p2_0 := hs_p2_0.step hst
 replace hb_p2 := (Ev.drew w).box hb_p2 nn
 replace hms := hms.ev (Ev.drew w)
 replace hev := hev.ext (Ev.drew w)
 refine x_fieldAddr (xv := Vp b_p2 0) (Vp b_p2 0) rfl rfl rfl (reads_field tfld25_0 _ _) ?_
 refine x_load (xv := Vp b_p2 0) (Vl a_p2_0 p2_0 c_p2_0) rfl rfl rfl (reads_box tcell23 hb_p2 nn 0 _ rfl) ?_
 refine x_u 1 [(8, Vi p0)] ?_
 obtain ⟨x3, hx3, h⟩ := bind_some h
 obtain ⟨ad3, cs3, hr3, hc3, hR⟩ := reads_index (Mo := []) tsl23 hs_p2_0 hx3
 obtain ⟨_, _, rfl, rfl, ⟨_, _, rfl, rfl, ⟨_, _, rfl, rfl, rfl⟩⟩⟩ := hR
 refine x_indexAddr (xv := Vl a_p2_0 p2_0 c_p2_0) (yv := Vi p0) (.pointer (some ad3)) rfl rfl rfl rfl hr3 ?_
 refine x_fieldAddr (xv := .pointer (some ad3)) (.pointer (some (Addr.add ad3 1))) rfl rfl rfl (reads_field tfld79_1 _ _) ?_
 refine x_load (xv := .pointer (some (Addr.add ad3 1))) (Vi x3.2.1) rfl rfl rfl (reads_cell tcell3 hc3 (fun _ h => by cases h) 1 _ rfl) ?_
 refine x_fieldAddr (xv := Vp b_p2 0) (Vp b_p2 0) rfl rfl rfl (reads_field tfld25_0 _ _) ?_
 refine x_load (xv := Vp b_p2 0) (Vl a_p2_0 p2_0 c_p2_0) rfl rfl rfl (reads_box tcell23 hb_p2 nn 0 _ rfl) ?_
 refine x_u 1 [(14, Vi p1)] ?_
 obtain ⟨x5, hx5, h⟩ := bind_some h
 obtain ⟨ad5, cs5, hr5, hc5, hR⟩ := reads_index (Mo := []) tsl23 hs_p2_0 hx5
 obtain ⟨_, _, rfl, rfl, ⟨_, _, rfl, rfl, ⟨_, _, rfl, rfl, rfl⟩⟩⟩ := hR
 refine x_indexAddr (xv := Vl a_p2_0 p2_0 c_p2_0) (yv := Vi p1) (.pointer (some ad5)) rfl rfl rfl rfl hr5 ?_
 refine x_fieldAddr (xv := .pointer (some ad5)) (.pointer (some (Addr.add ad5 1))) rfl rfl rfl (reads_field tfld79_1 _ _) ?_
 refine x_load (xv := .pointer (some (Addr.add ad5 1))) (Vi x5.2.1) rfl rfl rfl (reads_cell tcell3 hc5 (fun _ h => by cases h) 1 _ rfl) ?_
 refine x_u 2 [(18, Vi (IntKind.i64.wrap (x3.2.1 - x5.2.1))), (5, Vi (IntKind.i64.wrap (x3.2.1 - x5.2.1)))] ?_
 refine x_ek ?_
 refine c_norm [(5, Vi (IntKind.i64.wrap (x3.2.1 - x5.2.1)))] ⟨rfl, trivial⟩ (fun J => ?_)
 refine c_ret ?_
 refine r_ret (r_vals [Vi (IntKind.i64.wrap (x3.2.1 - x5.2.1))] ⟨rfl, trivial⟩ ?_)
 have hx := some_inj h
 subst hx
 have hmr : MS (w).drew [[b_p2], M] := hms.pick [some 0, some 1] _ rfl
 have hsu : ∀ x ∈ fl [[b_p2], M], x ∈ fl [[b_p2], M] := pick_sub [some 0, some 1] _ rfl
 exact ⟨⟨1, rfl⟩, rfl, hev, hb_p2⟩
end Go.Proofs.Ytcignnfdpgeogaa
