/- Walks, printed by program: each function returns what the partial function of the same name returns. Conditions: those of each theorem. -/
import Derived.Test.YtdjadgodphfihaaGT
set_option linter.unusedVariables false
set_option linter.unusedSimpArgs false
set_option maxRecDepth 4000
namespace Go.Proofs.Ytdjadgodphfihaa
open Go Go.V Go.Proofs
def yardgen_Place (p0 : Int) (p1 : Int) : Option Int :=
(if (decide (p1 < 1)) = true then
some 0
else
(if p1 ≠ 0 then
(if (decide ((Int.tmod p0 p1) < 0)) = true then
some (IntKind.i64.wrap ((Int.tmod p0 p1) + p1))
else
some (Int.tmod p0 p1))
else none))

theorem yardgen_Place_w (p0 : Int) (p1 : Int) (r : Int) (w : World) (h : yardgen_Place p0 p1 = some r) : CallVC Try.prog 16 [Vi p0, Vi p1] w fun v w' => v = Vi r ∧ Ev [] w w' := by
 refine calls_vc hmx Try.func16 (by kernel_rfl) rfl (rs := [.tmp 4]) rfl (by kernel_rfl) (args := [Vi p0, Vi p1]) rfl ?_
 have hev : Ev [] w w := Ev.refl _ _
 have hms : MS w [[]] := ⟨List.pairwise_singleton _ _, fun l hl b hb => by simp only [List.mem_singleton] at hl; subst hl; cases hb⟩
 have hfr : FR w.heap.size [] := FR.nil _
 refine c_sp ?_
 refine x_pure 1 [(4, Vi 0)] _ _ _ (by kernel_rfl) ?_
 refine x_ek ?_
 refine c_seq ?_
 refine c_sp ?_
 refine x_pure 2 [(5, Vi p1), (6, .bool (decide (p1 < 1)))] _ _ _ (by kernel_rfl) ?_
 refine x_ek ?_
 refine c_cond (decide (p1 < 1)) rfl (fun hb => ?_) (fun hb => ?_)
 · replace h := ite_t hb h
   refine c_sp ?_
   refine x_pure 1 [(4, Vi 0)] _ _ _ (by kernel_rfl) ?_
   refine x_ek ?_
   refine c_ret ?_
   refine k_then_ret ?_
   refine r_ret (r_vals [Vi 0] ⟨rfl, trivial⟩ ?_)
   have hx := some_inj h
   subst hx
   exact ⟨rfl, hev⟩
 replace h := ite_f hb h
 refine c_skip ?_
 refine k_then ?_
 refine c_sp ?_
 refine x_pure 2 [(7, Vi p0), (8, Vi p1)] _ _ _ (by kernel_rfl) ?_
 refine x_binop (Vi (Int.tmod p0 p1)) (Vi p0) (Vi p1) rfl rfl rfl rfl (vb_rem (guard_l h)) ?_
 replace h := guard_r h
 refine x_pure 1 [(0, Vi (Int.tmod p0 p1))] _ _ _ (by kernel_rfl) ?_
 refine x_ek ?_
 refine c_seq ?_
 refine c_sp ?_
 refine x_pure 2 [(10, Vi (Int.tmod p0 p1)), (11, .bool (decide ((Int.tmod p0 p1) < 0)))] _ _ _ (by kernel_rfl) ?_
 refine x_ek ?_
 refine c_cond (decide ((Int.tmod p0 p1) < 0)) rfl (fun hb => ?_) (fun hb => ?_)
 · replace h := ite_t hb h
   refine c_plain ?_
   refine x_pure 4 [(12, Vi (Int.tmod p0 p1)), (13, Vi p1), (14, Vi (IntKind.i64.wrap ((Int.tmod p0 p1) + p1))), (0, Vi (IntKind.i64.wrap ((Int.tmod p0 p1) + p1)))] _ _ _ (by kernel_rfl) ?_
   refine x_ek ?_
   refine c_norm [(0, Vi (IntKind.i64.wrap ((Int.tmod p0 p1) + p1)))] ⟨rfl, trivial⟩ (fun J => ?_)
   refine c_sp ?_
   refine x_pure 2 [(15, Vi (IntKind.i64.wrap ((Int.tmod p0 p1) + p1))), (4, Vi (IntKind.i64.wrap ((Int.tmod p0 p1) + p1)))] _ _ _ (by kernel_rfl) ?_
   refine x_ek ?_
   refine c_ret ?_
   refine r_ret (r_vals [Vi (IntKind.i64.wrap ((Int.tmod p0 p1) + p1))] ⟨rfl, trivial⟩ ?_)
   have hx := some_inj h
   subst hx
   exact ⟨rfl, hev⟩
 replace h := ite_f hb h
 refine c_skip ?_
 refine k_then ?_
 refine c_sp ?_
 refine x_pure 2 [(15, Vi (Int.tmod p0 p1)), (4, Vi (Int.tmod p0 p1))] _ _ _ (by kernel_rfl) ?_
 refine x_ek ?_
 refine c_ret ?_
 refine r_ret (r_vals [Vi (Int.tmod p0 p1)] ⟨rfl, trivial⟩ ?_)
 have hx := some_inj h
 subst hx
 exact ⟨rfl, hev⟩
end Go.Proofs.Ytdjadgodphfihaa
