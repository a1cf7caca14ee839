
/- Walks, printed by program: each function returns what the partial function of the same name returns. Conditions: those of each theorem. -/
import Derived.Test.YtcignnfdpgeogaaGT
set_option linter.unusedVariables false
set_option linter.unusedSimpArgs false
set_option maxRecDepth 4000
namespace Go.Proofs.Ytcignnfdpgeogaa
open Go Go.V Go.Proofs
def law15_four : Option ((List (Int × Int × Int × Int)) × Int) :=
some (([(0, 1, 0, 80), (0, 3, 0, 80), (0, 0, 0, 80), (0, 2, 0, 80)] : List (Int × Int × Int × Int)), 12)

theorem law15_four_w (r : ((List (Int × Int × Int × Int)) × Int)) (w : World) (M : List Nat) (hms : MS w [M]) (h : law15_four = some r) : CallVC Try.prog 45 [] w fun v w' => ∃ (a0' : Option Addr), ∃ (c0' : Nat), v = .agg #[Vl a0' r.1 c0', Vi r.2] ∧ Ev [] w w' ∧ SlR (eIt4) w' (fl [M]) a0' c0' r.1 := by
 refine calls_vc hmx Try.func45 (by kernel_rfl) rfl (rs := [.cell 0 25]) rfl (by kernel_rfl) (args := []) rfl ?_
 have hev : Ev [] w w := Ev.refl _ _
 have hfr : FR w.heap.size [] := FR.nil _
 refine c_sp ?_
 refine x_alloc (z := .agg #[.slice none 0 0, Vi 0]) rfl rfl (by kernel_rfl) (fun b1 w1 hq1 hb1 he1 hz1 => ?_)
 replace hb1 : w1.heap[b1]? = some (.cells #[.slice none 0 0, Vi 0] 25 (0, 0)) := hb1
 refine inl1 ?_
 replace hms := hms.box he1 hq1 hb1
 replace hfr := hfr.box hev.size hq1
 replace hev := hev.ext he1
 refine x_ek ?_
 refine c_sp ?_
 refine x_build (vs := [(1, Vi 1), (3, Vi 80)]) (.agg #[Vi 0, Vi 1, Vi 0, Vi 80]) rfl rfl rfl (fun _ _ => by kernel_rfl) ?_
 refine x_build (vs := [(1, Vi 3), (3, Vi 80)]) (.agg #[Vi 0, Vi 3, Vi 0, Vi 80]) rfl rfl rfl (fun _ _ => by kernel_rfl) ?_
 refine x_build (vs := [(1, Vi 0), (3, Vi 80)]) (.agg #[Vi 0, Vi 0, Vi 0, Vi 80]) rfl rfl rfl (fun _ _ => by kernel_rfl) ?_
 refine x_build (vs := [(1, Vi 2), (3, Vi 80)]) (.agg #[Vi 0, Vi 2, Vi 0, Vi 80]) rfl rfl rfl (fun _ _ => by kernel_rfl) ?_
 refine x_buildSlice (vs := [(0, .agg #[Vi 0, Vi 1, Vi 0, Vi 80]), (1, .agg #[Vi 0, Vi 3, Vi 0, Vi 80]), (2, .agg #[Vi 0, Vi 0, Vi 0, Vi 80]), (3, .agg #[Vi 0, Vi 2, Vi 0, Vi 80])]) #[Vi 0, Vi 1, Vi 0, Vi 80, Vi 0, Vi 3, Vi 0, Vi 80, Vi 0, Vi 0, Vi 0, Vi 80, Vi 0, Vi 2, Vi 0, Vi 80] 79 rfl rfl rfl (by kernel_rfl) (fun b3 w3 hq3 hb3 he3 hz3 => ?_)
 refine inl1 ?_
 have hms0 := hms
 replace hb1 := he3.box hb1 nn
 replace hms := hms.ev he3
 replace hev := hev.ext he3
 have hs3 : SlR (eIt4) w3 (fl [[b1], M]) (Ad b3 0) 4 ([(0, 1, 0, 80), (0, 3, 0, 80), (0, 0, 0, 80), (0, 2, 0, 80)] : List (Int × Int × Int × Int)) := ro_of_box hms0 hq3 hb3 rfl rfl (cells_at (cs := [Vi 0, Vi 1, Vi 0, Vi 80, Vi 0, Vi 3, Vi 0, Vi 80, Vi 0, Vi 0, Vi 0, Vi 80, Vi 0, Vi 2, Vi 0, Vi 80]) (CellsOf.cons (c := [Vi 0, Vi 1, Vi 0, Vi 80]) ⟨[Vi 0], [Vi 1, Vi 0, Vi 80], rfl, rfl, ⟨[Vi 1], [Vi 0, Vi 80], rfl, rfl, ⟨[Vi 0], [Vi 80], rfl, rfl, rfl⟩⟩⟩ (CellsOf.cons (c := [Vi 0, Vi 3, Vi 0, Vi 80]) ⟨[Vi 0], [Vi 3, Vi 0, Vi 80], rfl, rfl, ⟨[Vi 3], [Vi 0, Vi 80], rfl, rfl, ⟨[Vi 0], [Vi 80], rfl, rfl, rfl⟩⟩⟩ (CellsOf.cons (c := [Vi 0, Vi 0, Vi 0, Vi 80]) ⟨[Vi 0], [Vi 0, Vi 0, Vi 80], rfl, rfl, ⟨[Vi 0], [Vi 0, Vi 80], rfl, rfl, ⟨[Vi 0], [Vi 80], rfl, rfl, rfl⟩⟩⟩ (CellsOf.cons (c := [Vi 0, Vi 2, Vi 0, Vi 80]) ⟨[Vi 0], [Vi 2, Vi 0, Vi 80], rfl, rfl, ⟨[Vi 2], [Vi 0, Vi 80], rfl, rfl, ⟨[Vi 0], [Vi 80], rfl, rfl, rfl⟩⟩⟩ CellsOf.nil)))))
 clear hb3 hms0
 refine x_build (vs := [(0, .slice (Ad b3 0) (([(0, 1, 0, 80), (0, 3, 0, 80), (0, 0, 0, 80), (0, 2, 0, 80)] : List (Int × Int × Int × Int))).length 4), (1, Vi 12)]) (.agg #[.slice (Ad b3 0) (([(0, 1, 0, 80), (0, 3, 0, 80), (0, 0, 0, 80), (0, 2, 0, 80)] : List (Int × Int × Int × Int))).length 4, Vi 12]) rfl rfl rfl (fun _ _ => by kernel_rfl) ?_
 obtain ⟨w5, hr5, hb5, he5⟩ := store_boxagg 0 [.slice (Ad b3 0) (([(0, 1, 0, 80), (0, 3, 0, 80), (0, 0, 0, 80), (0, 2, 0, 80)] : List (Int × Int × Int × Int))).length 4, Vi 12] #[.slice (Ad b3 0) (([(0, 1, 0, 80), (0, 3, 0, 80), (0, 0, 0, 80), (0, 2, 0, 80)] : List (Int × Int × Int × Int))).length 4, Vi 12] tagg25 hb1 rfl rfl rfl
 refine x_store w5 (xv := Vp b1 0) (yv := .agg #[.slice (Ad b3 0) (([(0, 1, 0, 80), (0, 3, 0, 80), (0, 0, 0, 80), (0, 2, 0, 80)] : List (Int × Int × Int × Int))).length 4, Vi 12]) rfl rfl rfl rfl hr5 ?_
 refine inl1 ?_
 have hst := Stp.ev' (ls := [[b1], M]) he5 (mem_flat 0 rfl)
 replace hs3 := hs3.step hst
 replace hms := hms.ev he5
 replace hev := hev.then he5 (fun b hb => .inr (hfr.at 0 rfl b hb))
 replace hb1 := hb5
 refine x_ek ?_
 refine c_ret ?_
 refine r_ret (r_vals [.agg #[.slice (Ad b3 0) (([(0, 1, 0, 80), (0, 3, 0, 80), (0, 0, 0, 80), (0, 2, 0, 80)] : List (Int × Int × Int × Int))).length 4, Vi 12]] ⟨⟨_, rfl, loadVar_of_reads (reads_boxagg (Mo := []) 0 [.slice (Ad b3 0) (([(0, 1, 0, 80), (0, 3, 0, 80), (0, 0, 0, 80), (0, 2, 0, 80)] : List (Int × Int × Int × Int))).length 4, Vi 12] tagg25 hb1 nn rfl)⟩, trivial⟩ ?_)
 have hx := some_inj h
 subst hx
 have hmr : MS w5 [M] := hms.pick [some 1] _ rfl
 have hsu : ∀ x ∈ fl [M], x ∈ fl [[b1], M] := pick_sub [some 1] _ rfl
 exact ⟨(Ad b3 0), 4, rfl, hev, hs3.sub hsu⟩
end Go.Proofs.Ytcignnfdpgeogaa
