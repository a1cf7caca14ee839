
/- Walks, printed by program: each function returns what the partial function of the same name returns. Conditions: those of each theorem. -/
import Derived.Test.YtcignnfdpgeogaaGT
set_option linter.unusedVariables false
set_option linter.unusedSimpArgs false
set_option maxRecDepth 4000
namespace Go.Proofs.Ytcignnfdpgeogaa
open Go Go.V Go.Proofs
def law15_proof (p0 : Int) (p1 : List Int) (p2 : List Int) : Option ((Int × (List Int)) × (List Int)) :=
some ((p0, p1), p2)

theorem law15_proof_w (p0 : Int) (a_p1 : Option Addr) (c_p1 : Nat) (p1 : List Int) (a_p2 : Option Addr) (c_p2 : Nat) (p2 : List Int) (r : ((Int × (List Int)) × (List Int))) (w : World) (M : List Nat) (hms : MS w [M]) (hs_p1 : SlR (eInt .i64) w (fl [M]) a_p1 c_p1 p1) (hs_p2 : SlR (eInt .i64) w (fl [M]) a_p2 c_p2 p2) (h : law15_proof p0 p1 p2 = some r) : CallVC Try.prog 20 [Vi p0, Vl a_p1 p1 c_p1, Vl a_p2 p2 c_p2] w fun v w' => ∃ (a0' : Option Addr), ∃ (c0' : Nat), ∃ (a2' : Option Addr), ∃ (c2' : Nat), v = .agg #[Vi r.1.1, Vl a0' r.1.2 c0', Vl a2' r.2 c2'] ∧ Ev [] w w' ∧ SlR (eInt .i64) w' (fl [M]) a0' c0' r.1.2 ∧ SlR (eInt .i64) w' (fl [M]) a2' c2' r.2 := by
 refine calls_vc hmx Try.func20 (by kernel_rfl) rfl (rs := [.cell 6 29]) rfl (by kernel_rfl) (args := [Vi p0, Vl a_p1 p1 c_p1, Vl a_p2 p2 c_p2]) rfl ?_
 have hev : Ev [] w w := Ev.refl _ _
 have hfr : FR w.heap.size [] := FR.nil _
 refine c_sp ?_
 refine x_alloc (z := .agg #[Vi 0, .slice none 0 0, .slice none 0 0]) rfl rfl (by kernel_rfl) (fun b3 w3 hq3 hb3 he3 hz3 => ?_)
 replace hb3 : w3.heap[b3]? = some (.cells #[Vi 0, .slice none 0 0, .slice none 0 0] 29 (0, 0)) := hb3
 refine inl1 ?_
 have hst := Stp.box (ls := [M]) he3 hq3
 replace hs_p1 := hs_p1.step hst
 replace hs_p2 := hs_p2.step hst
 replace hms := hms.box he3 hq3 hb3
 replace hfr := hfr.box hev.size hq3
 replace hev := hev.ext he3
 refine x_ek ?_
 refine c_sp ?_
 refine x_u 2 [(7, Vi p0), (8, Vl a_p1 p1 c_p1)] ?_
 refine x_build (vs := [(0, Vi p0), (1, Vl a_p1 p1 c_p1)]) (.agg #[Vi p0, Vl a_p1 p1 c_p1]) rfl rfl rfl (fun _ _ => by kernel_rfl) ?_
 refine x_u 1 [(10, Vl a_p2 p2 c_p2)] ?_
 refine x_build (vs := [(0, .agg #[Vi p0, Vl a_p1 p1 c_p1]), (1, Vl a_p2 p2 c_p2)]) (.agg #[Vi p0, Vl a_p1 p1 c_p1, Vl a_p2 p2 c_p2]) rfl rfl rfl (fun _ _ => by kernel_rfl) ?_
 obtain ⟨w5, hr5, hb5, he5⟩ := store_boxagg 0 [Vi p0, Vl a_p1 p1 c_p1, Vl a_p2 p2 c_p2] #[Vi p0, Vl a_p1 p1 c_p1, Vl a_p2 p2 c_p2] tagg29 hb3 rfl rfl rfl
 refine x_store w5 (xv := Vp b3 0) (yv := .agg #[Vi p0, Vl a_p1 p1 c_p1, Vl a_p2 p2 c_p2]) rfl rfl rfl rfl hr5 ?_
 refine inl1 ?_
 have hst := Stp.ev' (ls := [[b3], M]) he5 (mem_flat 0 rfl)
 replace hs_p1 := hs_p1.step hst
 replace hs_p2 := hs_p2.step hst
 replace hms := hms.ev he5
 replace hev := hev.then he5 (fun b hb => .inr (hfr.at 0 rfl b hb))
 replace hb3 := hb5
 refine x_ek ?_
 refine c_ret ?_
 refine r_ret (r_vals [.agg #[Vi p0, Vl a_p1 p1 c_p1, Vl a_p2 p2 c_p2]] ⟨⟨_, rfl, loadVar_of_reads (reads_boxagg (Mo := []) 0 [Vi p0, Vl a_p1 p1 c_p1, Vl a_p2 p2 c_p2] tagg29 hb3 nn rfl)⟩, trivial⟩ ?_)
 have hx := some_inj h
 subst hx
 have hmr : MS w5 [M] := hms.pick [some 1] _ rfl
 have hsu : ∀ x ∈ fl [M], x ∈ fl [[b3], M] := pick_sub [some 1] _ rfl
 exact ⟨a_p1, c_p1, a_p2, c_p2, rfl, hev, hs_p1.sub hsu, hs_p2.sub hsu⟩

theorem law15_proof_p (p0 : Int) (a_p1 : Option Addr) (c_p1 : Nat) (p1 : List Int) (a_p2 : Option Addr) (c_p2 : Nat) (p2 : List Int) (w : World) : CallVC Try.prog 20 [Vi p0, Vl a_p1 p1 c_p1, Vl a_p2 p2 c_p2] w fun v w' => v = .agg #[Vi p0, Vl a_p1 p1 c_p1, Vl a_p2 p2 c_p2] ∧ Ev [] w w' := by
 refine calls_vc hmx Try.func20 (by kernel_rfl) rfl (rs := [.cell 6 29]) rfl (by kernel_rfl) (args := [Vi p0, Vl a_p1 p1 c_p1, Vl a_p2 p2 c_p2]) rfl ?_
 have hms : MS w [[]] := ⟨List.pairwise_singleton _ _, fun l hl b hb => by simp only [List.mem_singleton] at hl; subst hl; cases hb⟩
 have hev : Ev [] w w := Ev.refl _ _
 have hfr : FR w.heap.size [] := FR.nil _
 refine c_sp ?_
 refine x_alloc (z := .agg #[Vi 0, .slice none 0 0, .slice none 0 0]) rfl rfl (by kernel_rfl) (fun b3 w3 hq3 hb3 he3 hz3 => ?_)
 replace hb3 : w3.heap[b3]? = some (.cells #[Vi 0, .slice none 0 0, .slice none 0 0] 29 (0, 0)) := hb3
 refine inl1 ?_
 have hst := Stp.box (ls := [[]]) he3 hq3
 replace hms := hms.box he3 hq3 hb3
 replace hfr := hfr.box hev.size hq3
 replace hev := hev.ext he3
 refine x_ek ?_
 refine c_sp ?_
 refine x_u 2 [(7, Vi p0), (8, Vl a_p1 p1 c_p1)] ?_
 refine x_build (vs := [(0, Vi p0), (1, Vl a_p1 p1 c_p1)]) (.agg #[Vi p0, Vl a_p1 p1 c_p1]) rfl rfl rfl (fun _ _ => by kernel_rfl) ?_
 refine x_u 1 [(10, Vl a_p2 p2 c_p2)] ?_
 refine x_build (vs := [(0, .agg #[Vi p0, Vl a_p1 p1 c_p1]), (1, Vl a_p2 p2 c_p2)]) (.agg #[Vi p0, Vl a_p1 p1 c_p1, Vl a_p2 p2 c_p2]) rfl rfl rfl (fun _ _ => by kernel_rfl) ?_
 obtain ⟨w5, hr5, hb5, he5⟩ := store_boxagg 0 [Vi p0, Vl a_p1 p1 c_p1, Vl a_p2 p2 c_p2] #[Vi p0, Vl a_p1 p1 c_p1, Vl a_p2 p2 c_p2] tagg29 hb3 rfl rfl rfl
 refine x_store w5 (xv := Vp b3 0) (yv := .agg #[Vi p0, Vl a_p1 p1 c_p1, Vl a_p2 p2 c_p2]) rfl rfl rfl rfl hr5 ?_
 refine inl1 ?_
 have hst := Stp.ev' (ls := [[b3], []]) he5 (mem_flat 0 rfl)
 replace hms := hms.ev he5
 replace hev := hev.then he5 (fun b hb => .inr (hfr.at 0 rfl b hb))
 replace hb3 := hb5
 refine x_ek ?_
 refine c_ret ?_
 refine r_ret (r_vals [.agg #[Vi p0, Vl a_p1 p1 c_p1, Vl a_p2 p2 c_p2]] ⟨⟨_, rfl, loadVar_of_reads (reads_boxagg (Mo := []) 0 [Vi p0, Vl a_p1 p1 c_p1, Vl a_p2 p2 c_p2] tagg29 hb3 nn rfl)⟩, trivial⟩ ?_)
 exact ⟨rfl, hev⟩

end Go.Proofs.Ytcignnfdpgeogaa
