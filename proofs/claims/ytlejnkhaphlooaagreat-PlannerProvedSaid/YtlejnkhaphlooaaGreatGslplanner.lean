
/- Walks, printed by program: each function returns what the partial function of the same name returns. Conditions: those of each theorem. -/
import Derived.Test.YtlejnkhaphlooaaGreatGT
import Derived.Test.YtlejnkhaphlooaaGreatGcmp
set_option linter.unusedVariables false
set_option linter.unusedSimpArgs false
set_option maxRecDepth 4000
namespace Go.Proofs.YtlejnkhaphlooaaGreat
open Go Go.V Go.Proofs
def planner_Schemes_1 (p0_0 : Int) (p0_1 : Int) (p0_2 : Int) (p0_3 : Int) (p1_0 : Int) (p1_1 : Int) (p1_2 : Int) (p1_3 : Int) : Option Int :=
((cmp_Or_int_ ([IntKind.i64.wrap (p0_1 - p1_1), IntKind.i64.wrap (p0_2 - p1_2), IntKind.i64.wrap (p0_0 - p1_0)])).bind fun x7 =>
some x7)
theorem planner_Schemes_1_w (p0_0 : Int) (p0_1 : Int) (p0_2 : Int) (p0_3 : Int) (p1_0 : Int) (p1_1 : Int) (p1_2 : Int) (p1_3 : Int) (r : Int) (w : World) (h : planner_Schemes_1 p0_0 p0_1 p0_2 p0_3 p1_0 p1_1 p1_2 p1_3 = some r) : CallVC Tryz.prog 49 [.agg #[Vi p0_0, Vi p0_1, Vi p0_2, Vi p0_3], .agg #[Vi p1_0, Vi p1_1, Vi p1_2, Vi p1_3]] w fun v w' => v = Vi r ∧ Ev [] w w' := by
 refine calls_vc hmx Tryz.func49 (by kernel_rfl) rfl (rs := [.tmp 4]) rfl (by kernel_rfl) (args := [.agg #[Vi p0_0, Vi p0_1, Vi p0_2, Vi p0_3], .agg #[Vi p1_0, Vi p1_1, Vi p1_2, Vi p1_3]]) rfl ?_
 have hev : Ev [] w w := Ev.refl _ _
 have hms : MS w [[]] := ⟨List.pairwise_singleton _ _, fun l hl b hb => by simp only [List.mem_singleton] at hl; subst hl; cases hb⟩
 refine c_sp (x_box (xv := .agg #[Vi p0_0, Vi p0_1, Vi p0_2, Vi p0_3]) rfl rfl rfl (fun b1 w1 hq1 hb1 he1 hz1 => ?_))
 replace hb1 : w1.heap[b1]? = some (.cells #[Vi p0_0, Vi p0_1, Vi p0_2, Vi p0_3] 48 (0, 0)) := hb1
 refine inl1 ?_
 replace hms := hms.box he1 hq1 hb1
 replace hev := hev.ext he1
 refine x_box (xv := .agg #[Vi p1_0, Vi p1_1, Vi p1_2, Vi p1_3]) rfl rfl rfl (fun b3 w3 hq3 hb3 he3 hz3 => ?_)
 replace hb3 : w3.heap[b3]? = some (.cells #[Vi p1_0, Vi p1_1, Vi p1_2, Vi p1_3] 48 (0, 0)) := hb3
 refine inl1 ?_
 replace hb1 := he3.box hb1 nn
 replace hms := hms.box he3 hq3 hb3
 replace hev := hev.ext he3
 refine x_u 1 [(4, Vi 0)] (x_ek (c_sp (x_fieldAddr (xv := Vp b1 0) (Vp b1 1) rfl rfl rfl (reads_field tfld48_1 _ _) (x_load (xv := Vp b1 1) (Vi p0_1) rfl rfl rfl (reads_box tcell3 hb1 nn 1 _ rfl) (x_fieldAddr (xv := Vp b3 0) (Vp b3 1) rfl rfl rfl (reads_field tfld48_1 _ _) ?_)))))
 refine x_load (xv := Vp b3 1) (Vi p1_1) rfl rfl rfl (reads_box tcell3 hb3 nn 1 _ rfl) (x_u 1 [(9, Vi (IntKind.i64.wrap (p0_1 - p1_1)))] (x_fieldAddr (xv := Vp b1 0) (Vp b1 2) rfl rfl rfl (reads_field tfld48_2 _ _) (x_load (xv := Vp b1 2) (Vi p0_2) rfl rfl rfl (reads_box tcell3 hb1 nn 2 _ rfl) (x_fieldAddr (xv := Vp b3 0) (Vp b3 2) rfl rfl rfl (reads_field tfld48_2 _ _) (x_load (xv := Vp b3 2) (Vi p1_2) rfl rfl rfl (reads_box tcell3 hb3 nn 2 _ rfl) ?_)))))
 refine x_u 1 [(14, Vi (IntKind.i64.wrap (p0_2 - p1_2)))] (x_fieldAddr (xv := Vp b1 0) (Vp b1 0) rfl rfl rfl (reads_field tfld48_0 _ _) (x_load (xv := Vp b1 0) (Vi p0_0) rfl rfl rfl (reads_box tcell3 hb1 nn 0 _ rfl) (x_fieldAddr (xv := Vp b3 0) (Vp b3 0) rfl rfl rfl (reads_field tfld48_0 _ _) (x_load (xv := Vp b3 0) (Vi p1_0) rfl rfl rfl (reads_box tcell3 hb3 nn 0 _ rfl) (x_u 1 [(19, Vi (IntKind.i64.wrap (p0_0 - p1_0)))] ?_)))))
 refine x_buildSlice (vs := [(0, Vi (IntKind.i64.wrap (p0_1 - p1_1))), (1, Vi (IntKind.i64.wrap (p0_2 - p1_2))), (2, Vi (IntKind.i64.wrap (p0_0 - p1_0)))]) #[Vi (IntKind.i64.wrap (p0_1 - p1_1)), Vi (IntKind.i64.wrap (p0_2 - p1_2)), Vi (IntKind.i64.wrap (p0_0 - p1_0))] 3 rfl rfl rfl (by kernel_rfl) (fun b5 w5 hq5 hb5 he5 hz5 => ?_)
 refine inl1 ?_
 have hms0 := hms
 replace hms := hms.ev he5
 replace hev := hev.ext he5
 have hs5 : SlR (eInt .i64) w5 (fl [[b3], [b1], []]) (Ad b5 0) 3 ([IntKind.i64.wrap (p0_1 - p1_1), IntKind.i64.wrap (p0_2 - p1_2), IntKind.i64.wrap (p0_0 - p1_0)]) := ro_of_box hms0 hq5 hb5 rfl rfl (cells_at (cs := [Vi (IntKind.i64.wrap (p0_1 - p1_1)), Vi (IntKind.i64.wrap (p0_2 - p1_2)), Vi (IntKind.i64.wrap (p0_0 - p1_0))]) (CellsOf.cons (c := [Vi (IntKind.i64.wrap (p0_1 - p1_1))]) rfl (CellsOf.cons (c := [Vi (IntKind.i64.wrap (p0_2 - p1_2))]) rfl (CellsOf.cons (c := [Vi (IntKind.i64.wrap (p0_0 - p1_0))]) rfl CellsOf.nil))))
 clear hb5 hms0
 obtain ⟨x7, hx, h⟩ := bind_some h
 have hcall := cmp_Or_int__w (Ad b5 0) 3 ([IntKind.i64.wrap (p0_1 - p1_1), IntKind.i64.wrap (p0_2 - p1_2), IntKind.i64.wrap (p0_0 - p1_0)]) _ w5 (fl [[b3], [b1], []]) (MS.fold (P := []) hms) (hs5.sub fl1) hx
 refine x_call 50 #[] #[] [.slice (Ad b5 0) ([IntKind.i64.wrap (p0_1 - p1_1), IntKind.i64.wrap (p0_2 - p1_2), IntKind.i64.wrap (p0_0 - p1_0)]).length 3] _ rfl rfl rfl rfl hcall ?_
 rintro v w8 ⟨rfl, he8⟩
 clear hcall hx
 refine inl1 ?_
 replace hev := hev.ext he8
 refine x_u 1 [(4, Vi x7)] (x_ek (c_nm [(4, Vi x7)] (fun J => ?_)))
 refine c_ret (r_ret (r_vals [Vi x7] ⟨rfl, trivial⟩ ?_))
 obtain rfl := some_inj h
 exact ⟨rfl, hev⟩
def slices_insertionSortCmpFunc_humpyard_api_Scheme__L4 (p1 : Int) (s : (List (Int × Int × Int × Int)) × Int) : Option (Step ((List (Int × Int × Int × Int)) × Int) (List (Int × Int × Int × Int))) :=
match s with
| (d1_l4, j_s9_l4) =>
(if (decide (j_s9_l4 > p1)) = true then
((idx d1_l4 j_s9_l4).bind fun x6 =>
((idx d1_l4 (IntKind.i64.wrap (j_s9_l4 - 1))).bind fun x8 =>
((planner_Schemes_1 x6.1 x6.2.1 x6.2.2.1 x6.2.2.2 x8.1 x8.2.1 x8.2.2.1 x8.2.2.2).bind fun x11 =>
(if (decide (x11 < 0)) = true then
((idx d1_l4 (IntKind.i64.wrap (j_s9_l4 - 1))).bind fun x13 =>
((idx d1_l4 j_s9_l4).bind fun x15 =>
((idx d1_l4 j_s9_l4).bind fun x17 =>
((idx (d1_l4.set (Int.toNat j_s9_l4) (x13.1, x13.2.1, x13.2.2.1, x13.2.2.2)) (IntKind.i64.wrap (j_s9_l4 - 1))).bind fun x20 =>
some (.next (((d1_l4.set (Int.toNat j_s9_l4) (x13.1, x13.2.1, x13.2.2.1, x13.2.2.2)).set (Int.toNat (IntKind.i64.wrap (j_s9_l4 - 1))) (x15.1, x15.2.1, x15.2.2.1, x15.2.2.2)), IntKind.i64.wrap (j_s9_l4 - 1)))))))
else
some (.done d1_l4)))))
else
some (.done d1_l4))
def slices_insertionSortCmpFunc_humpyard_api_Scheme__L2 (p1 : Int) (p2 : Int) (s : (List (Int × Int × Int × Int)) × Int) : Option (Step ((List (Int × Int × Int × Int)) × Int) (List (Int × Int × Int × Int))) :=
match s with
| (d1_l2, i_s8_l2) =>
(if (decide (i_s8_l2 < p2)) = true then
((loop (slices_insertionSortCmpFunc_humpyard_api_Scheme__L4 p1) (d1_l2, i_s8_l2)).bind fun d => match d with
| d1_x4 => some (.next (d1_x4, IntKind.i64.wrap (i_s8_l2 + 1))))
else
some (.done d1_l2))
def slices_insertionSortCmpFunc_humpyard_api_Scheme_ (p0 : List (Int × Int × Int × Int)) (p1 : Int) (p2 : Int) : Option (List (Int × Int × Int × Int)) :=
((loop (slices_insertionSortCmpFunc_humpyard_api_Scheme__L2 p1 p2) (p0, IntKind.i64.wrap (p1 + 1))).bind fun d => match d with
| d1_x2 => some d1_x2)
theorem slices_insertionSortCmpFunc_humpyard_api_Scheme__w (a_p0 : Option Addr) (c_p0 : Nat) (p0 : List (Int × Int × Int × Int)) (p1 : Int) (p2 : Int) (r : (List (Int × Int × Int × Int))) (w : World) (M : List Nat) (hms : MS w [blk a_p0, M]) (hs_p0 : OwnS (eIt4) 48 w (fl [blk a_p0, M]) a_p0 c_p0 p0) (h : slices_insertionSortCmpFunc_humpyard_api_Scheme_ p0 p1 p2 = some r) : CallVC Tryz.prog 107 [.slice a_p0 (p0).length c_p0, Vi p1, Vi p2, (.func (.func 49) #[] #[])] w fun v w' => v = .tuple #[] ∧ Ev (fl [blk a_p0]) w w' ∧ OwnS (eIt4) 48 w' (fl [blk a_p0, M]) a_p0 c_p0 r ∧ MS w' [blk a_p0, M] ∧ FR w.heap.size [] ∧ NP (fl [blk a_p0]) w.heap.size [blk a_p0] := by
 refine calls_vc hmx Tryz.func107 (by kernel_rfl) rfl (rs := []) rfl (by kernel_rfl) (args := [.slice a_p0 (p0).length c_p0, Vi p1, Vi p2, (.func (.func 49) #[] #[])]) rfl ?_
 have hev : Ev (fl [blk a_p0]) w w := Ev.refl _ _
 have hfr : FR w.heap.size [] := FR.nil _
 have hpr : NP (fl [blk a_p0]) w.heap.size [blk a_p0] := NP.init _ _
 refine c_sp (x_u 3 [(10, Vi p1), (11, Vi (IntKind.i64.wrap (p1 + 1))), (8, Vi (IntKind.i64.wrap (p1 + 1)))] (x_ek (c_block ?_)))
 obtain ⟨d2, hd2, h2⟩ := bind_some h
 obtain ⟨m2, hd2⟩ := loop_some hd2
 refine c_loop (loop_rule hmx (σ := Nat × (List (Int × Int × Int × Int)) × Int) (fun s => match s with | (_, d1_l2, i_s8_l2) => [(0, .slice a_p0 (d1_l2).length c_p0), (1, Vi p1), (2, Vi p2), (3, (.func (.func 49) #[] #[])), (8, Vi i_s8_l2)]) (fun s w' => match s with | (m, d1_l2, i_s8_l2) => loopN (slices_insertionSortCmpFunc_humpyard_api_Scheme__L2 p1 p2) m (d1_l2, i_s8_l2) = some d2 ∧ Ev (fl [blk a_p0]) w w' ∧ MS w' [blk a_p0, M] ∧ FR w.heap.size [] ∧ NP (fl [blk a_p0]) w.heap.size [blk a_p0] ∧ OwnS (eIt4) 48 w' (fl [blk a_p0, M]) a_p0 c_p0 d1_l2) (fun s => s.1) (m2, p0, IntKind.i64.wrap (p1 + 1)) ⟨rfl, rfl, rfl, rfl, rfl, trivial⟩ ⟨hd2, hev, hms, hfr, hpr, hs_p0⟩ ?_)
 rintro ⟨m2, d1_l2, i_s8_l2⟩ J wl2 ⟨hn2, hev, hms, hfr, hpr, hs_p0⟩
 rcases m2 with _ | m2
 · exact (loopN_zero hn2).elim
 obtain ⟨t2, h, hn2⟩ := bind_some hn2
 refine c_seq (c_sp (x_u 3 [(12, Vi i_s8_l2), (13, Vi p2), (14, .bool (decide (i_s8_l2 < p2)))] (x_ek (c_nm [(0, .slice a_p0 (d1_l2).length c_p0), (1, Vi p1), (2, Vi p2), (3, (.func (.func 49) #[] #[])), (8, Vi i_s8_l2), (14, .bool (decide (i_s8_l2 < p2)))] (fun J => ?_)))))
 refine c_if (decide (i_s8_l2 < p2)) rfl h (fun h => ?_) (fun h => ?_)
 · refine c_skip (k_then (c_seq (c_block (c_sp (x_u 2 [(17, Vi i_s8_l2), (9, Vi i_s8_l2)] ?_)))))
   refine x_ek (c_block ?_)
   obtain ⟨d4, hd4, h4⟩ := bind_some h
   obtain ⟨m4, hd4⟩ := loop_some hd4
   refine c_loop (loop_rule hmx (σ := Nat × (List (Int × Int × Int × Int)) × Int) (fun s => match s with | (_, d1_l4, j_s9_l4) => [(0, .slice a_p0 (d1_l4).length c_p0), (1, Vi p1), (2, Vi p2), (3, (.func (.func 49) #[] #[])), (8, Vi i_s8_l2), (9, Vi j_s9_l4)]) (fun s w' => match s with | (m, d1_l4, j_s9_l4) => loopN (slices_insertionSortCmpFunc_humpyard_api_Scheme__L4 p1) m (d1_l4, j_s9_l4) = some d4 ∧ Ev (fl [blk a_p0]) w w' ∧ MS w' [blk a_p0, M] ∧ FR w.heap.size [] ∧ NP (fl [blk a_p0]) w.heap.size [blk a_p0] ∧ OwnS (eIt4) 48 w' (fl [blk a_p0, M]) a_p0 c_p0 d1_l4) (fun s => s.1) (m4, d1_l2, i_s8_l2) ⟨rfl, rfl, rfl, rfl, rfl, rfl, trivial⟩ ⟨hd4, hev, hms, hfr, hpr, hs_p0⟩ ?_)
   rintro ⟨m4, d1_l4, j_s9_l4⟩ J wl4 ⟨hn4, hev, hms, hfr, hpr, hs_p0⟩
   rcases m4 with _ | m4
   · exact (loopN_zero hn4).elim
   obtain ⟨t4, h, hn4⟩ := bind_some hn4
   refine c_seq (c_seq (c_drawn [] [(0, false), (1, false), (2, false), (3, false), (4, false), (5, false), (6, false), (7, false), (8, false), (9, false), (10, false), (11, false), (12, false), (13, false), (14, true), (15, false), (16, false)] _ (by kernel_rfl) rfl ?_))
   have hst := Stp.ext (ls := [blk a_p0, M]) (Ev.drew wl4)
   replace hs_p0 := hs_p0.step hst (Ev.drew wl4) nn2
   replace hms := hms.ev (Ev.drew wl4)
   replace hev := hev.ext (Ev.drew wl4)
   refine x_u 4 [(18, Vi j_s9_l4), (19, Vi p1), (20, .bool (decide (j_s9_l4 > p1))), (21, .bool (decide (j_s9_l4 > p1)))] (x_if 21 (decide (j_s9_l4 > p1)) rfl h (fun h => ?_) (fun h => ?_))
   · refine x_u 3 [(22, (.func (.func 49) #[] #[])), (23, .slice a_p0 (d1_l4).length c_p0), (24, Vi j_s9_l4)] ?_
     obtain ⟨x6, hx6, h⟩ := bind_some h
     obtain ⟨g6, cs6, ha6, hr6, hc6, hR⟩ := own_index (Mo := []) tsl44 hs_p0 hx6
     obtain ⟨_, _, rfl, rfl, ⟨_, _, rfl, rfl, ⟨_, _, rfl, rfl, rfl⟩⟩⟩ := hR
     refine x_indexAddr (xv := .slice a_p0 (d1_l4).length c_p0) (yv := Vi j_s9_l4) (.pointer (some ⟨g6, (Int.toNat j_s9_l4) * (eIt4).n, none⟩)) rfl rfl rfl rfl hr6 (x_load (xv := .pointer (some ⟨g6, (Int.toNat j_s9_l4) * (eIt4).n, none⟩)) (.agg #[Vi x6.1, Vi x6.2.1, Vi x6.2.2.1, Vi x6.2.2.2]) rfl rfl rfl (reads_agg tagg48 hc6 (fun _ h => by cases h)) ?_)
     refine x_u 3 [(27, .slice a_p0 (d1_l4).length c_p0), (28, Vi j_s9_l4), (29, Vi (IntKind.i64.wrap (j_s9_l4 - 1)))] ?_
     obtain ⟨x8, hx8, h⟩ := bind_some h
     obtain ⟨g8, cs8, ha8, hr8, hc8, hR⟩ := own_index (Mo := []) tsl44 hs_p0 hx8
     obtain ⟨_, _, rfl, rfl, ⟨_, _, rfl, rfl, ⟨_, _, rfl, rfl, rfl⟩⟩⟩ := hR
     refine x_indexAddr (xv := .slice a_p0 (d1_l4).length c_p0) (yv := Vi (IntKind.i64.wrap (j_s9_l4 - 1))) (.pointer (some ⟨g8, (Int.toNat (IntKind.i64.wrap (j_s9_l4 - 1))) * (eIt4).n, none⟩)) rfl rfl rfl rfl hr8 (x_load (xv := .pointer (some ⟨g8, (Int.toNat (IntKind.i64.wrap (j_s9_l4 - 1))) * (eIt4).n, none⟩)) (.agg #[Vi x8.1, Vi x8.2.1, Vi x8.2.2.1, Vi x8.2.2.2]) rfl rfl rfl (reads_agg tagg48 hc8 (fun _ h => by cases h)) ?_)
     obtain ⟨x11, hx, h⟩ := bind_some h
     have hcall := planner_Schemes_1_w x6.1 x6.2.1 x6.2.2.1 x6.2.2.2 x8.1 x8.2.1 x8.2.2.1 x8.2.2.2 _ (wl4).drew hx
     refine x_call 49 #[] #[] [.agg #[Vi x6.1, Vi x6.2.1, Vi x6.2.2.1, Vi x6.2.2.2], .agg #[Vi x8.1, Vi x8.2.1, Vi x8.2.2.1, Vi x8.2.2.2]] _ rfl rfl rfl rfl hcall ?_
     rintro v w12 ⟨rfl, he12⟩
     clear hcall hx
     refine inl1 ?_
     have hst := Stp.ext (ls := [blk a_p0, M]) he12
     replace hs_p0 := hs_p0.step hst he12 nn2
     replace hms := hms.ev he12
     replace hev := hev.ext he12
     refine x_u 2 [(33, .bool (decide (x11 < 0))), (34, .bool (decide (x11 < 0)))] (x_ek (c_nm [(0, .slice a_p0 (d1_l4).length c_p0), (1, Vi p1), (2, Vi p2), (3, (.func (.func 49) #[] #[])), (8, Vi i_s8_l2), (9, Vi j_s9_l4), (34, .bool (decide (x11 < 0)))] (fun J => ?_)))
     refine c_if (decide (x11 < 0)) rfl h (fun h => ?_) (fun h => ?_)
     · refine c_skip (k_then (c_seq (c_block (c_drawn (blk a_p0) [(0, true), (1, true), (2, false), (3, false), (4, false), (5, true), (6, true), (7, true), (8, true), (9, true), (10, true), (11, true), (12, true), (13, true), (14, true), (15, false), (16, true), (17, true)] _ (by kernel_rfl) rfl ?_))))
       have hst := Stp.ext (ls := [blk a_p0, M]) (Ev.drew w12)
       replace hs_p0 := hs_p0.step hst (Ev.drew w12) nn2
       replace hms := hms.ev (Ev.drew w12)
       replace hev := hev.ext (Ev.drew w12)
       refine x_u 8 [(37, .slice a_p0 (d1_l4).length c_p0), (38, Vi j_s9_l4), (39, .slice a_p0 (d1_l4).length c_p0), (40, Vi j_s9_l4), (41, Vi (IntKind.i64.wrap (j_s9_l4 - 1))), (42, .slice a_p0 (d1_l4).length c_p0), (43, Vi j_s9_l4), (44, Vi (IntKind.i64.wrap (j_s9_l4 - 1)))] ?_
       obtain ⟨x13, hx13, h⟩ := bind_some h
       obtain ⟨g13, cs13, ha13, hr13, hc13, hR⟩ := own_index (Mo := []) tsl44 hs_p0 hx13
       obtain ⟨_, _, rfl, rfl, ⟨_, _, rfl, rfl, ⟨_, _, rfl, rfl, rfl⟩⟩⟩ := hR
       refine x_indexAddr (xv := .slice a_p0 (d1_l4).length c_p0) (yv := Vi (IntKind.i64.wrap (j_s9_l4 - 1))) (.pointer (some ⟨g13, (Int.toNat (IntKind.i64.wrap (j_s9_l4 - 1))) * (eIt4).n, none⟩)) rfl rfl rfl rfl hr13 (x_load (xv := .pointer (some ⟨g13, (Int.toNat (IntKind.i64.wrap (j_s9_l4 - 1))) * (eIt4).n, none⟩)) (.agg #[Vi x13.1, Vi x13.2.1, Vi x13.2.2.1, Vi x13.2.2.2]) rfl rfl rfl (reads_agg tagg48 hc13 (fun _ h => by cases h)) ?_)
       refine x_u 2 [(47, .slice a_p0 (d1_l4).length c_p0), (48, Vi j_s9_l4)] ?_
       obtain ⟨x15, hx15, h⟩ := bind_some h
       obtain ⟨g15, cs15, ha15, hr15, hc15, hR⟩ := own_index (Mo := []) tsl44 hs_p0 hx15
       obtain ⟨_, _, rfl, rfl, ⟨_, _, rfl, rfl, ⟨_, _, rfl, rfl, rfl⟩⟩⟩ := hR
       refine x_indexAddr (xv := .slice a_p0 (d1_l4).length c_p0) (yv := Vi j_s9_l4) (.pointer (some ⟨g15, (Int.toNat j_s9_l4) * (eIt4).n, none⟩)) rfl rfl rfl rfl hr15 (x_load (xv := .pointer (some ⟨g15, (Int.toNat j_s9_l4) * (eIt4).n, none⟩)) (.agg #[Vi x15.1, Vi x15.2.1, Vi x15.2.2.1, Vi x15.2.2.2]) rfl rfl rfl (reads_agg tagg48 hc15 (fun _ h => by cases h)) ?_)
       obtain ⟨x17, hx17, h⟩ := bind_some h
       obtain ⟨g17, cs17, ha17, hr17, hc17, hR⟩ := own_index (Mo := []) tsl44 hs_p0 hx17
       obtain ⟨_, _, rfl, rfl, ⟨_, _, rfl, rfl, ⟨_, _, rfl, rfl, rfl⟩⟩⟩ := hR
       refine x_indexAddr (xv := .slice a_p0 (d1_l4).length c_p0) (yv := Vi j_s9_l4) (.pointer (some ⟨g17, (Int.toNat j_s9_l4) * (eIt4).n, none⟩)) rfl rfl rfl rfl hr17 ?_
       have hxs18_14 := hx13
       have hxs18_16 := hx15
       obtain ⟨w19, hr19, he19, ho19⟩ := own_storeAE ha17 (y := (x13.1, x13.2.1, x13.2.2.1, x13.2.2.2)) [Vi x13.1, Vi x13.2.1, Vi x13.2.2.1, Vi x13.2.2.2] tagg48 hs_p0 (mem_flat 0 rfl) hx17 rfl rfl (fun _ _ => ⟨[Vi x13.1], [Vi x13.2.1, Vi x13.2.2.1, Vi x13.2.2.2], rfl, rfl, ⟨[Vi x13.2.1], [Vi x13.2.2.1, Vi x13.2.2.2], rfl, rfl, ⟨[Vi x13.2.2.1], [Vi x13.2.2.2], rfl, rfl, rfl⟩⟩⟩)
       refine x_store w19 (xv := .pointer (some ⟨g17, (Int.toNat j_s9_l4) * (eIt4).n, none⟩)) (yv := .agg #[Vi x13.1, Vi x13.2.1, Vi x13.2.2.1, Vi x13.2.2.2]) rfl rfl rfl rfl hr19 (⟨.inr he19, ?_⟩)
       replace hms := hms.ev he19
       replace hev := hev.then he19 (hpr.at 0 rfl)
       replace hs_p0 := ho19
       have hsl : (Value.slice a_p0 (d1_l4).length c_p0) = (Value.slice a_p0 ((d1_l4.set (Int.toNat j_s9_l4) (x13.1, x13.2.1, x13.2.2.1, x13.2.2.2))).length c_p0) := by first | (rw [List.length_set]; done) | simp only [List.length_set]
       try rw [hsl]
       clear hsl
       obtain ⟨_, hxs18_14⟩ : ∃ y, idx (d1_l4.set (Int.toNat j_s9_l4) (x13.1, x13.2.1, x13.2.2.1, x13.2.2.2)) (IntKind.i64.wrap (j_s9_l4 - 1)) = some y := idx_set_any hxs18_14 _ _
       obtain ⟨_, hxs18_16⟩ : ∃ y, idx (d1_l4.set (Int.toNat j_s9_l4) (x13.1, x13.2.1, x13.2.2.1, x13.2.2.2)) j_s9_l4 = some y := idx_set_any hxs18_16 _ _
       obtain ⟨x20, hx20, h⟩ := bind_some h
       obtain ⟨g20, cs20, ha20, hr20, hc20, hR⟩ := own_index (Mo := []) tsl44 hs_p0 hx20
       obtain ⟨_, _, rfl, rfl, ⟨_, _, rfl, rfl, ⟨_, _, rfl, rfl, rfl⟩⟩⟩ := hR
       refine x_indexAddr (xv := .slice a_p0 ((d1_l4.set (Int.toNat j_s9_l4) (x13.1, x13.2.1, x13.2.2.1, x13.2.2.2))).length c_p0) (yv := Vi (IntKind.i64.wrap (j_s9_l4 - 1))) (.pointer (some ⟨g20, (Int.toNat (IntKind.i64.wrap (j_s9_l4 - 1))) * (eIt4).n, none⟩)) rfl rfl rfl rfl hr20 ?_
       have hxs21_14 := hxs18_14
       have hxs21_16 := hxs18_16
       obtain ⟨w22, hr22, he22, ho22⟩ := own_storeAE ha20 (y := (x15.1, x15.2.1, x15.2.2.1, x15.2.2.2)) [Vi x15.1, Vi x15.2.1, Vi x15.2.2.1, Vi x15.2.2.2] tagg48 hs_p0 (mem_flat 0 rfl) hx20 rfl rfl (fun _ _ => ⟨[Vi x15.1], [Vi x15.2.1, Vi x15.2.2.1, Vi x15.2.2.2], rfl, rfl, ⟨[Vi x15.2.1], [Vi x15.2.2.1, Vi x15.2.2.2], rfl, rfl, ⟨[Vi x15.2.2.1], [Vi x15.2.2.2], rfl, rfl, rfl⟩⟩⟩)
       refine x_store w22 (xv := .pointer (some ⟨g20, (Int.toNat (IntKind.i64.wrap (j_s9_l4 - 1))) * (eIt4).n, none⟩)) (yv := .agg #[Vi x15.1, Vi x15.2.1, Vi x15.2.2.1, Vi x15.2.2.2]) rfl rfl rfl rfl hr22 (inl1 ?_)
       replace hms := hms.ev he22
       replace hev := hev.then he22 (hpr.at 0 rfl)
       replace hs_p0 := ho22
       have hsl : (Value.slice a_p0 ((d1_l4.set (Int.toNat j_s9_l4) (x13.1, x13.2.1, x13.2.2.1, x13.2.2.2))).length c_p0) = (Value.slice a_p0 (((d1_l4.set (Int.toNat j_s9_l4) (x13.1, x13.2.1, x13.2.2.1, x13.2.2.2)).set (Int.toNat (IntKind.i64.wrap (j_s9_l4 - 1))) (x15.1, x15.2.1, x15.2.2.1, x15.2.2.2))).length c_p0) := by first | (rw [List.length_set]; done) | simp only [List.length_set]
       try rw [hsl]
       clear hsl
       obtain ⟨_, hxs21_14⟩ : ∃ y, idx ((d1_l4.set (Int.toNat j_s9_l4) (x13.1, x13.2.1, x13.2.2.1, x13.2.2.2)).set (Int.toNat (IntKind.i64.wrap (j_s9_l4 - 1))) (x15.1, x15.2.1, x15.2.2.1, x15.2.2.2)) (IntKind.i64.wrap (j_s9_l4 - 1)) = some y := idx_set_any hxs21_14 _ _
       obtain ⟨_, hxs21_16⟩ : ∃ y, idx ((d1_l4.set (Int.toNat j_s9_l4) (x13.1, x13.2.1, x13.2.2.1, x13.2.2.2)).set (Int.toNat (IntKind.i64.wrap (j_s9_l4 - 1))) (x15.1, x15.2.1, x15.2.2.1, x15.2.2.2)) j_s9_l4 = some y := idx_set_any hxs21_16 _ _
       refine x_end rfl (k_block (k_then (c_nm [(0, .slice a_p0 (((d1_l4.set (Int.toNat j_s9_l4) (x13.1, x13.2.1, x13.2.2.1, x13.2.2.2)).set (Int.toNat (IntKind.i64.wrap (j_s9_l4 - 1))) (x15.1, x15.2.1, x15.2.2.1, x15.2.2.2))).length c_p0), (1, Vi p1), (2, Vi p2), (3, (.func (.func 49) #[] #[])), (8, Vi i_s8_l2), (9, Vi j_s9_l4)] (fun J => ?_))))
       refine c_plain (x_u 3 [(35, Vi j_s9_l4), (36, Vi (IntKind.i64.wrap (j_s9_l4 - 1))), (9, Vi (IntKind.i64.wrap (j_s9_l4 - 1)))] (x_end rfl ?_))
       obtain rfl := some_inj h
       exact k_then ⟨(m4, ((d1_l4.set (Int.toNat j_s9_l4) (x13.1, x13.2.1, x13.2.2.1, x13.2.2.2)).set (Int.toNat (IntKind.i64.wrap (j_s9_l4 - 1))) (x15.1, x15.2.1, x15.2.2.1, x15.2.2.2)), IntKind.i64.wrap (j_s9_l4 - 1)), ⟨rfl, rfl, rfl, rfl, rfl, rfl, trivial⟩, ⟨hn4, hev, hms, hfr, hpr, hs_p0⟩, Nat.lt_succ_self _⟩
     refine c_exit (k_then_exit ?_)
     obtain rfl := some_inj h
     have hy := some_inj hn4
     subst hy
     replace h := h4
     refine k_then_exit (k_block_in (k_block (k_then (c_nm [(0, .slice a_p0 (d1_l4).length c_p0), (1, Vi p1), (2, Vi p2), (3, (.func (.func 49) #[] #[])), (8, Vi i_s8_l2)] (fun J => ?_)))))
     refine c_plain (x_u 3 [(15, Vi i_s8_l2), (16, Vi (IntKind.i64.wrap (i_s8_l2 + 1))), (8, Vi (IntKind.i64.wrap (i_s8_l2 + 1)))] (x_end rfl ?_))
     obtain rfl := some_inj h
     exact k_then ⟨(m2, d1_l4, IntKind.i64.wrap (i_s8_l2 + 1)), ⟨rfl, rfl, rfl, rfl, rfl, trivial⟩, ⟨hn2, hev, hms, hfr, hpr, hs_p0⟩, Nat.lt_succ_self _⟩
   refine x_u 13 [(22, undef), (23, undef), (24, undef), (25, undef), (26, undef), (27, undef), (28, undef), (29, undef), (30, undef), (31, undef), (32, undef), (33, undef), (34, .bool false)] (x_ek (c_nm [(0, .slice a_p0 (d1_l4).length c_p0), (1, Vi p1), (2, Vi p2), (3, (.func (.func 49) #[] #[])), (8, Vi i_s8_l2), (9, Vi j_s9_l4), (34, .bool false)] (fun J => ?_)))
   refine c_false rfl (c_exit (k_then_exit ?_))
   obtain rfl := some_inj h
   have hy := some_inj hn4
   subst hy
   replace h := h4
   refine k_then_exit (k_block_in (k_block (k_then (c_nm [(0, .slice a_p0 (d1_l4).length c_p0), (1, Vi p1), (2, Vi p2), (3, (.func (.func 49) #[] #[])), (8, Vi i_s8_l2)] (fun J => ?_)))))
   refine c_plain (x_u 3 [(15, Vi i_s8_l2), (16, Vi (IntKind.i64.wrap (i_s8_l2 + 1))), (8, Vi (IntKind.i64.wrap (i_s8_l2 + 1)))] (x_end rfl ?_))
   obtain rfl := some_inj h
   exact k_then ⟨(m2, d1_l4, IntKind.i64.wrap (i_s8_l2 + 1)), ⟨rfl, rfl, rfl, rfl, rfl, trivial⟩, ⟨hn2, hev, hms, hfr, hpr, hs_p0⟩, Nat.lt_succ_self _⟩
 refine c_exit (k_then_exit ?_)
 obtain rfl := some_inj h
 have hy := some_inj hn2
 subst hy
 replace h := h2
 refine k_then_exit (k_block_in (r_normal (r_vals [] trivial ?_)))
 obtain rfl := some_inj h
 have hmr := hms.pick [some 0, some 1] [blk a_p0, M] rfl
 have hsu := pick_sub (ls := [blk a_p0, M]) [some 0, some 1] [blk a_p0, M] rfl
 have hfe := hfr.pick [] [] rfl
 exact ⟨rfl, hev, hs_p0.sub hsu, hmr, hfe, (NP.cons (hpr.at 0 rfl) (NP.nil _ _))⟩
def slices_stableCmpFunc_humpyard_api_Scheme__L12 (p1 : Int) (blockSize_s6_l9 : Int) (s : Unit) : Option (Step Unit Unit) :=
(if (decide ((IntKind.i64.wrap (2 * blockSize_s6_l9)) ≤ p1)) = true then
none
else
some (.done ()))
def slices_stableCmpFunc_humpyard_api_Scheme__L9 (p1 : Int) (s : Int) : Option (Step Int Unit) :=
match s with
| blockSize_s6_l9 =>
(if (decide (blockSize_s6_l9 < p1)) = true then
((loop (slices_stableCmpFunc_humpyard_api_Scheme__L12 p1 blockSize_s6_l9) ()).bind fun d => match d with
| _ => (if (decide ((IntKind.i64.wrap (0 + blockSize_s6_l9)) < p1)) = true then
none
else
some (.next (IntKind.i64.wrap (blockSize_s6_l9 * 2)))))
else
some (.done ()))
def slices_stableCmpFunc_humpyard_api_Scheme__L3 (p1 : Int) (s : (List (Int × Int × Int × Int)) × Int × Int) : Option (Step ((List (Int × Int × Int × Int)) × Int × Int) ((List (Int × Int × Int × Int)) × Int)) :=
match s with
| (d1_l3, a_s7_l3, b_s8_l3) =>
(if (decide (b_s8_l3 ≤ p1)) = true then
((slices_insertionSortCmpFunc_humpyard_api_Scheme_ d1_l3 a_s7_l3 b_s8_l3).bind fun x5 =>
(if x5.length = d1_l3.length then
some (.next (x5, b_s8_l3, IntKind.i64.wrap (b_s8_l3 + 20)))
else none))
else
some (.done (d1_l3, a_s7_l3)))
def slices_stableCmpFunc_humpyard_api_Scheme_ (p0 : List (Int × Int × Int × Int)) (p1 : Int) : Option (List (Int × Int × Int × Int)) :=
((loop (slices_stableCmpFunc_humpyard_api_Scheme__L3 p1) (p0, 0, 20)).bind fun d => match d with
| (d1_x3, a_s7_x3) => ((slices_insertionSortCmpFunc_humpyard_api_Scheme_ d1_x3 a_s7_x3 p1).bind fun x7 =>
(if x7.length = d1_x3.length then
((loop (slices_stableCmpFunc_humpyard_api_Scheme__L9 p1) 20).bind fun d => match d with
| _ => some x7)
else none)))
theorem slices_stableCmpFunc_humpyard_api_Scheme__w (a_p0 : Option Addr) (c_p0 : Nat) (p0 : List (Int × Int × Int × Int)) (p1 : Int) (r : (List (Int × Int × Int × Int))) (w : World) (M : List Nat) (hms : MS w [blk a_p0, M]) (hs_p0 : OwnS (eIt4) 48 w (fl [blk a_p0, M]) a_p0 c_p0 p0) (h : slices_stableCmpFunc_humpyard_api_Scheme_ p0 p1 = some r) : CallVC Tryz.prog 78 [.slice a_p0 (p0).length c_p0, Vi p1, (.func (.func 49) #[] #[])] w fun v w' => v = .tuple #[] ∧ Ev (fl [blk a_p0]) w w' ∧ OwnS (eIt4) 48 w' (fl [blk a_p0, M]) a_p0 c_p0 r ∧ MS w' [blk a_p0, M] ∧ FR w.heap.size [] ∧ NP (fl [blk a_p0]) w.heap.size [blk a_p0] := by
 refine calls_vc hmx Tryz.func78 (by kernel_rfl) rfl (rs := []) rfl (by kernel_rfl) (args := [.slice a_p0 (p0).length c_p0, Vi p1, (.func (.func 49) #[] #[])]) rfl ?_
 have hev : Ev (fl [blk a_p0]) w w := Ev.refl _ _
 have hfr : FR w.heap.size [] := FR.nil _
 have hpr : NP (fl [blk a_p0]) w.heap.size [blk a_p0] := NP.init _ _
 refine c_sp (x_u 1 [(6, Vi 20)] (x_ek (c_sp (x_u 3 [(10, Vi 20), (7, Vi 0), (8, Vi 20)] (x_ek ?_)))))
 refine c_seq (c_block ?_)
 obtain ⟨d3, hd3, h3⟩ := bind_some h
 obtain ⟨m3, hd3⟩ := loop_some hd3
 refine c_loop (loop_rule hmx (σ := Nat × (List (Int × Int × Int × Int)) × Int × Int) (fun s => match s with | (_, d1_l3, a_s7_l3, b_s8_l3) => [(0, .slice a_p0 (d1_l3).length c_p0), (1, Vi p1), (2, (.func (.func 49) #[] #[])), (6, Vi 20), (7, Vi a_s7_l3), (8, Vi b_s8_l3)]) (fun s w' => match s with | (m, d1_l3, a_s7_l3, b_s8_l3) => loopN (slices_stableCmpFunc_humpyard_api_Scheme__L3 p1) m (d1_l3, a_s7_l3, b_s8_l3) = some d3 ∧ Ev (fl [blk a_p0]) w w' ∧ MS w' [blk a_p0, M] ∧ FR w.heap.size [] ∧ NP (fl [blk a_p0]) w.heap.size [blk a_p0] ∧ OwnS (eIt4) 48 w' (fl [blk a_p0, M]) a_p0 c_p0 d1_l3) (fun s => s.1) (m3, p0, 0, 20) ⟨rfl, rfl, rfl, rfl, rfl, rfl, trivial⟩ ⟨hd3, hev, hms, hfr, hpr, hs_p0⟩ ?_)
 rintro ⟨m3, d1_l3, a_s7_l3, b_s8_l3⟩ J wl3 ⟨hn3, hev, hms, hfr, hpr, hs_p0⟩
 rcases m3 with _ | m3
 · exact (loopN_zero hn3).elim
 obtain ⟨t3, h, hn3⟩ := bind_some hn3
 refine c_seq (c_sp (x_u 3 [(11, Vi b_s8_l3), (12, Vi p1), (13, .bool (decide (b_s8_l3 ≤ p1)))] (x_ek (c_nm [(0, .slice a_p0 (d1_l3).length c_p0), (1, Vi p1), (2, (.func (.func 49) #[] #[])), (6, Vi 20), (7, Vi a_s7_l3), (8, Vi b_s8_l3), (13, .bool (decide (b_s8_l3 ≤ p1)))] (fun J => ?_)))))
 refine c_if (decide (b_s8_l3 ≤ p1)) rfl h (fun h => ?_) (fun h => ?_)
 · refine c_skip (k_then (c_block (c_sp (x_u 4 [(14, .slice a_p0 (d1_l3).length c_p0), (15, Vi a_s7_l3), (16, Vi b_s8_l3), (17, (.func (.func 49) #[] #[]))] ?_))))
   obtain ⟨x5, hx, h⟩ := bind_some h
   have hpk : MS wl3 ([blk a_p0] ++ [M]) := hms.pick [some 0, some 1] _ rfl
   have hsb0 : ∀ x ∈ fl ([blk a_p0] ++ [M]), x ∈ fl [blk a_p0, M] := pick_sub [some 0, some 1] _ rfl
   have hsb : ∀ x ∈ fl ([blk a_p0] ++ [(fl [M])]), x ∈ fl [blk a_p0, M] := fun x hx => hsb0 x (fl_unfold x hx)
   have hcall := slices_insertionSortCmpFunc_humpyard_api_Scheme__w a_p0 c_p0 d1_l3 a_s7_l3 b_s8_l3 _ wl3 (fl [M]) (hpk.fold (P := [blk a_p0])) (hs_p0.sub hsb) hx
   refine x_call 107 #[] #[] [.slice a_p0 (d1_l3).length c_p0, Vi a_s7_l3, Vi b_s8_l3, (.func (.func 49) #[] #[])] _ rfl rfl rfl rfl hcall ?_
   rintro v w6 ⟨rfl, he6, hp6_0, hmn6, hfn6, hnp6⟩
   clear hcall hx
   refine inl1 ?_
   have hpk2 : MS wl3 ([blk a_p0] ++ [M]) := hms.pick [some 0, some 1] _ rfl
   replace hms : MS w6 [blk a_p0, M] := (MS.call (P := [blk a_p0]) (R := [M]) (res := []) (par := [blk a_p0]) hpk2 he6 hmn6 hfn6 hnp6).pick [some 0, some 1] _ rfl
   have hPf : ∀ b ∈ fl [blk a_p0], b ∈ (fl [blk a_p0]) ∨ w.heap.size ≤ b := NP.mem (ls := [blk a_p0]) (hpr.pick [some 0] _ rfl)
   have hpr2 : NP (fl [blk a_p0]) w.heap.size [blk a_p0] := (NP.cons (fun b hb => (hnp6.at 0 rfl b hb).elim (fun h => hPf b h) (fun h => .inr (Nat.le_trans hev.size h))) (NP.nil _ _))
   replace hev := hev.then he6 hPf
   replace hpr := hpr2
   clear hpr2
   replace hs_p0 := OwnS.plain (M' := fl [blk a_p0, M]) (plain_prod (plain_int _) (plain_prod (plain_int _) (plain_prod (plain_int _) (plain_int _)))) hp6_0
   clear hpk hsb hsb0 hpk2
   have hgl := guard_l h
   replace h := guard_r h
   have hsl : (Value.slice a_p0 (d1_l3).length c_p0) = (Value.slice a_p0 (x5).length c_p0) := by first | (rw [hgl]; done) | simp only [hgl]
   try rw [hsl]
   clear hsl
   refine x_ek (c_sp (x_u 2 [(19, Vi b_s8_l3), (7, Vi b_s8_l3)] (x_ek (c_plain (x_u 4 [(20, Vi b_s8_l3), (21, Vi 20), (22, Vi (IntKind.i64.wrap (b_s8_l3 + 20))), (8, Vi (IntKind.i64.wrap (b_s8_l3 + 20)))] ?_)))))
   refine x_end rfl (k_block ?_)
   obtain rfl := some_inj h
   exact k_then ⟨(m3, x5, b_s8_l3, IntKind.i64.wrap (b_s8_l3 + 20)), ⟨rfl, rfl, rfl, rfl, rfl, rfl, trivial⟩, ⟨hn3, hev, hms, hfr, hpr, hs_p0⟩, Nat.lt_succ_self _⟩
 refine c_exit (k_then_exit ?_)
 obtain rfl := some_inj h
 have hy := some_inj hn3
 subst hy
 replace h := h3
 refine k_then_exit (k_block_in (k_then (c_nm [(0, .slice a_p0 (d1_l3).length c_p0), (1, Vi p1), (2, (.func (.func 49) #[] #[])), (6, Vi 20), (7, Vi a_s7_l3)] (fun J => ?_))))
 refine c_sp (x_u 4 [(23, .slice a_p0 (d1_l3).length c_p0), (24, Vi a_s7_l3), (25, Vi p1), (26, (.func (.func 49) #[] #[]))] ?_)
 obtain ⟨x7, hx, h⟩ := bind_some h
 have hpk : MS wl3 ([blk a_p0] ++ [M]) := hms.pick [some 0, some 1] _ rfl
 have hsb0 : ∀ x ∈ fl ([blk a_p0] ++ [M]), x ∈ fl [blk a_p0, M] := pick_sub [some 0, some 1] _ rfl
 have hsb : ∀ x ∈ fl ([blk a_p0] ++ [(fl [M])]), x ∈ fl [blk a_p0, M] := fun x hx => hsb0 x (fl_unfold x hx)
 have hcall := slices_insertionSortCmpFunc_humpyard_api_Scheme__w a_p0 c_p0 d1_l3 a_s7_l3 p1 _ wl3 (fl [M]) (hpk.fold (P := [blk a_p0])) (hs_p0.sub hsb) hx
 refine x_call 107 #[] #[] [.slice a_p0 (d1_l3).length c_p0, Vi a_s7_l3, Vi p1, (.func (.func 49) #[] #[])] _ rfl rfl rfl rfl hcall ?_
 rintro v w8 ⟨rfl, he8, hp8_0, hmn8, hfn8, hnp8⟩
 clear hcall hx
 refine inl1 ?_
 have hpk2 : MS wl3 ([blk a_p0] ++ [M]) := hms.pick [some 0, some 1] _ rfl
 replace hms : MS w8 [blk a_p0, M] := (MS.call (P := [blk a_p0]) (R := [M]) (res := []) (par := [blk a_p0]) hpk2 he8 hmn8 hfn8 hnp8).pick [some 0, some 1] _ rfl
 have hPf : ∀ b ∈ fl [blk a_p0], b ∈ (fl [blk a_p0]) ∨ w.heap.size ≤ b := NP.mem (ls := [blk a_p0]) (hpr.pick [some 0] _ rfl)
 have hpr2 : NP (fl [blk a_p0]) w.heap.size [blk a_p0] := (NP.cons (fun b hb => (hnp8.at 0 rfl b hb).elim (fun h => hPf b h) (fun h => .inr (Nat.le_trans hev.size h))) (NP.nil _ _))
 replace hev := hev.then he8 hPf
 replace hpr := hpr2
 clear hpr2
 replace hs_p0 := OwnS.plain (M' := fl [blk a_p0, M]) (plain_prod (plain_int _) (plain_prod (plain_int _) (plain_prod (plain_int _) (plain_int _)))) hp8_0
 clear hpk hsb hsb0 hpk2
 have hgl := guard_l h
 replace h := guard_r h
 have hsl : (Value.slice a_p0 (d1_l3).length c_p0) = (Value.slice a_p0 (x7).length c_p0) := by first | (rw [hgl]; done) | simp only [hgl]
 try rw [hsl]
 clear hsl
 refine x_ek (c_block ?_)
 obtain ⟨d9, hd9, h9⟩ := bind_some h
 obtain ⟨m9, hd9⟩ := loop_some hd9
 refine c_loop (loop_rule hmx (σ := Nat × Int) (fun s => match s with | (_, blockSize_s6_l9) => [(0, .slice a_p0 (x7).length c_p0), (1, Vi p1), (2, (.func (.func 49) #[] #[])), (6, Vi blockSize_s6_l9)]) (fun s w' => match s with | (m, blockSize_s6_l9) => loopN (slices_stableCmpFunc_humpyard_api_Scheme__L9 p1) m blockSize_s6_l9 = some d9 ∧ Ev (fl [blk a_p0]) w w' ∧ MS w' [blk a_p0, M] ∧ FR w.heap.size [] ∧ NP (fl [blk a_p0]) w.heap.size [blk a_p0] ∧ OwnS (eIt4) 48 w' (fl [blk a_p0, M]) a_p0 c_p0 x7) (fun s => s.1) (m9, 20) ⟨rfl, rfl, rfl, rfl, trivial⟩ ⟨hd9, hev, hms, hfr, hpr, hs_p0⟩ ?_)
 rintro ⟨m9, blockSize_s6_l9⟩ J wl9 ⟨hn9, hev, hms, hfr, hpr, hs_p0⟩
 rcases m9 with _ | m9
 · exact (loopN_zero hn9).elim
 obtain ⟨t9, h, hn9⟩ := bind_some hn9
 refine c_seq (c_sp (x_u 3 [(28, Vi blockSize_s6_l9), (29, Vi p1), (30, .bool (decide (blockSize_s6_l9 < p1)))] (x_ek (c_nm [(0, .slice a_p0 (x7).length c_p0), (1, Vi p1), (2, (.func (.func 49) #[] #[])), (6, Vi blockSize_s6_l9), (30, .bool (decide (blockSize_s6_l9 < p1)))] (fun J => ?_)))))
 refine c_if (decide (blockSize_s6_l9 < p1)) rfl h (fun h => ?_) (fun h => ?_)
 · refine c_skip (k_then (c_block (c_sp (x_u 4 [(31, Vi blockSize_s6_l9), (32, Vi (IntKind.i64.wrap (2 * blockSize_s6_l9))), (7, Vi 0), (8, Vi (IntKind.i64.wrap (2 * blockSize_s6_l9)))] (x_ek ?_)))))
   refine c_seq (c_block ?_)
   obtain ⟨d12, hd12, h12⟩ := bind_some h
   obtain ⟨m12, hd12⟩ := loop_some hd12
   refine c_loop (loop_rule hmx (σ := Nat × Unit) (fun s => match s with | (_, _) => [(0, .slice a_p0 (x7).length c_p0), (1, Vi p1), (2, (.func (.func 49) #[] #[])), (6, Vi blockSize_s6_l9), (7, Vi 0), (8, Vi (IntKind.i64.wrap (2 * blockSize_s6_l9)))]) (fun s w' => match s with | (m, _) => loopN (slices_stableCmpFunc_humpyard_api_Scheme__L12 p1 blockSize_s6_l9) m () = some d12 ∧ Ev (fl [blk a_p0]) w w' ∧ MS w' [blk a_p0, M] ∧ FR w.heap.size [] ∧ NP (fl [blk a_p0]) w.heap.size [blk a_p0] ∧ OwnS (eIt4) 48 w' (fl [blk a_p0, M]) a_p0 c_p0 x7) (fun s => s.1) (m12, ()) ⟨rfl, rfl, rfl, rfl, rfl, rfl, trivial⟩ ⟨hd12, hev, hms, hfr, hpr, hs_p0⟩ ?_)
   rintro ⟨m12, _⟩ J wl12 ⟨hn12, hev, hms, hfr, hpr, hs_p0⟩
   rcases m12 with _ | m12
   · exact (loopN_zero hn12).elim
   obtain ⟨t12, h, hn12⟩ := bind_some hn12
   refine c_seq (c_sp (x_u 3 [(33, Vi (IntKind.i64.wrap (2 * blockSize_s6_l9))), (34, Vi p1), (35, .bool (decide ((IntKind.i64.wrap (2 * blockSize_s6_l9)) ≤ p1)))] (x_ek (c_nm [(0, .slice a_p0 (x7).length c_p0), (1, Vi p1), (2, (.func (.func 49) #[] #[])), (6, Vi blockSize_s6_l9), (7, Vi 0), (8, Vi (IntKind.i64.wrap (2 * blockSize_s6_l9))), (35, .bool (decide ((IntKind.i64.wrap (2 * blockSize_s6_l9)) ≤ p1)))] (fun J => ?_)))))
   refine c_if (decide ((IntKind.i64.wrap (2 * blockSize_s6_l9)) ≤ p1)) rfl h (fun h => ?_) (fun h => ?_)
   · refine c_skip (k_then (c_block (c_sp ?_)))
     cases h
   refine c_exit (k_then_exit ?_)
   obtain rfl := some_inj h
   have hy := some_inj hn12
   subst hy
   replace h := h12
   refine k_then_exit (k_block_in (k_then (c_nm [(0, .slice a_p0 (x7).length c_p0), (1, Vi p1), (2, (.func (.func 49) #[] #[])), (6, Vi blockSize_s6_l9), (7, Vi 0)] (fun J => ?_))))
   refine c_seq (c_sp (x_u 4 [(49, Vi 0), (50, Vi blockSize_s6_l9), (51, Vi (IntKind.i64.wrap (0 + blockSize_s6_l9))), (9, Vi (IntKind.i64.wrap (0 + blockSize_s6_l9)))] (x_ek (c_sp (x_u 3 [(52, Vi (IntKind.i64.wrap (0 + blockSize_s6_l9))), (53, Vi p1), (54, .bool (decide ((IntKind.i64.wrap (0 + blockSize_s6_l9)) < p1)))] ?_)))))
   refine x_ek (c_if (decide ((IntKind.i64.wrap (0 + blockSize_s6_l9)) < p1)) rfl h (fun h => ?_) (fun h => ?_))
   · refine c_plain ?_
     cases h
   refine c_skip (k_then (c_plain (x_u 3 [(61, Vi blockSize_s6_l9), (62, Vi (IntKind.i64.wrap (blockSize_s6_l9 * 2))), (6, Vi (IntKind.i64.wrap (blockSize_s6_l9 * 2)))] (x_end rfl (k_block ?_)))))
   obtain rfl := some_inj h
   exact k_then ⟨(m9, IntKind.i64.wrap (blockSize_s6_l9 * 2)), ⟨rfl, rfl, rfl, rfl, trivial⟩, ⟨hn9, hev, hms, hfr, hpr, hs_p0⟩, Nat.lt_succ_self _⟩
 refine c_exit (k_then_exit ?_)
 obtain rfl := some_inj h
 have hy := some_inj hn9
 subst hy
 replace h := h9
 refine k_then_exit (k_block_in (r_normal (r_vals [] trivial ?_)))
 obtain rfl := some_inj h
 have hmr := hms.pick [some 0, some 1] [blk a_p0, M] rfl
 have hsu := pick_sub (ls := [blk a_p0, M]) [some 0, some 1] [blk a_p0, M] rfl
 have hfe := hfr.pick [] [] rfl
 exact ⟨rfl, hev, hs_p0.sub hsu, hmr, hfe, (NP.cons (hpr.at 0 rfl) (NP.nil _ _))⟩
def slices_SortStableFunc_humpyard_api_Scheme_humpyard_api_Scheme_ (p0 : List (Int × Int × Int × Int)) : Option (List (Int × Int × Int × Int)) :=
((slices_stableCmpFunc_humpyard_api_Scheme_ p0 ((p0).length : Int)).bind fun x2 =>
(if x2.length = p0.length then
some x2
else none))
theorem slices_SortStableFunc_humpyard_api_Scheme_humpyard_api_Scheme__w (a_p0 : Option Addr) (c_p0 : Nat) (p0 : List (Int × Int × Int × Int)) (r : (List (Int × Int × Int × Int))) (w : World) (M : List Nat) (hms : MS w [blk a_p0, M]) (hs_p0 : OwnS (eIt4) 48 w (fl [blk a_p0, M]) a_p0 c_p0 p0) (h : slices_SortStableFunc_humpyard_api_Scheme_humpyard_api_Scheme_ p0 = some r) : CallVC Tryz.prog 48 [.slice a_p0 (p0).length c_p0, (.func (.func 49) #[] #[])] w fun v w' => v = .tuple #[] ∧ Ev (fl [blk a_p0]) w w' ∧ OwnS (eIt4) 48 w' (fl [blk a_p0, M]) a_p0 c_p0 r ∧ MS w' [blk a_p0, M] ∧ FR w.heap.size [] ∧ NP (fl [blk a_p0]) w.heap.size [blk a_p0] := by
 refine calls_vc hmx Tryz.func48 (by kernel_rfl) rfl (rs := []) rfl (by kernel_rfl) (args := [.slice a_p0 (p0).length c_p0, (.func (.func 49) #[] #[])]) rfl ?_
 have hev : Ev (fl [blk a_p0]) w w := Ev.refl _ _
 have hfr : FR w.heap.size [] := FR.nil _
 have hpr : NP (fl [blk a_p0]) w.heap.size [blk a_p0] := NP.init _ _
 refine c_plain (x_u 2 [(4, .slice a_p0 (p0).length c_p0), (5, .slice a_p0 (p0).length c_p0)] (x_len (vs := [.slice a_p0 (p0).length c_p0]) (Vi ((p0).length : Int)) rfl rfl rfl (reads_len tsl44 _ _ _ _ _) (x_u 1 [(7, (.func (.func 49) #[] #[]))] ?_)))
 obtain ⟨x2, hx, h⟩ := bind_some h
 have hpk : MS w ([blk a_p0] ++ [M]) := hms.pick [some 0, some 1] _ rfl
 have hsb0 : ∀ x ∈ fl ([blk a_p0] ++ [M]), x ∈ fl [blk a_p0, M] := pick_sub [some 0, some 1] _ rfl
 have hsb : ∀ x ∈ fl ([blk a_p0] ++ [(fl [M])]), x ∈ fl [blk a_p0, M] := fun x hx => hsb0 x (fl_unfold x hx)
 have hcall := slices_stableCmpFunc_humpyard_api_Scheme__w a_p0 c_p0 p0 ((p0).length : Int) _ w (fl [M]) (hpk.fold (P := [blk a_p0])) (hs_p0.sub hsb) hx
 refine x_call 78 #[] #[] [.slice a_p0 (p0).length c_p0, Vi ((p0).length : Int), (.func (.func 49) #[] #[])] _ rfl rfl rfl rfl hcall ?_
 rintro v w3 ⟨rfl, he3, hp3_0, hmn3, hfn3, hnp3⟩
 clear hcall hx
 refine inl1 ?_
 have hpk2 : MS w ([blk a_p0] ++ [M]) := hms.pick [some 0, some 1] _ rfl
 replace hms : MS w3 [blk a_p0, M] := (MS.call (P := [blk a_p0]) (R := [M]) (res := []) (par := [blk a_p0]) hpk2 he3 hmn3 hfn3 hnp3).pick [some 0, some 1] _ rfl
 have hPf : ∀ b ∈ fl [blk a_p0], b ∈ (fl [blk a_p0]) ∨ w.heap.size ≤ b := NP.mem (ls := [blk a_p0]) (hpr.pick [some 0] _ rfl)
 have hpr2 : NP (fl [blk a_p0]) w.heap.size [blk a_p0] := (NP.cons (fun b hb => (hnp3.at 0 rfl b hb).elim (fun h => hPf b h) (fun h => .inr (Nat.le_trans hev.size h))) (NP.nil _ _))
 replace hev := hev.then he3 hPf
 replace hpr := hpr2
 clear hpr2
 replace hs_p0 := OwnS.plain (M' := fl [blk a_p0, M]) (plain_prod (plain_int _) (plain_prod (plain_int _) (plain_prod (plain_int _) (plain_int _)))) hp3_0
 clear hpk hsb hsb0 hpk2
 have hgl := guard_l h
 replace h := guard_r h
 have hsl : (Value.slice a_p0 (p0).length c_p0) = (Value.slice a_p0 (x2).length c_p0) := by first | (rw [hgl]; done) | simp only [hgl]
 try rw [hsl]
 clear hsl
 refine x_end rfl (r_normal (r_vals [] trivial ?_))
 obtain rfl := some_inj h
 have hmr := hms.pick [some 0, some 1] [blk a_p0, M] rfl
 have hsu := pick_sub (ls := [blk a_p0, M]) [some 0, some 1] [blk a_p0, M] rfl
 have hfe := hfr.pick [] [] rfl
 exact ⟨rfl, hev, hs_p0.sub hsu, hmr, hfe, (NP.cons (hpr.at 0 rfl) (NP.nil _ _))⟩
end Go.Proofs.YtlejnkhaphlooaaGreat
