
/- Walks, printed by program: each function returns what the partial function of the same name returns. Conditions: those of each theorem. -/
import Derived.Test.YtlejnkhaphlooaaGreatGT
set_option linter.unusedVariables false
set_option linter.unusedSimpArgs false
set_option maxRecDepth 4000
namespace Go.Proofs.YtlejnkhaphlooaaGreat
open Go Go.V Go.Proofs
def assign_order_1 (p0 : Int) (p1 : Int) (p2 : List Int) : Option Int :=
((idx p2 p1).bind fun x3 =>
((idx p2 p0).bind fun x5 =>
some (IntKind.i64.wrap (x3 - x5))))
theorem assign_order_1_w (p0 : Int) (p1 : Int) (b_p2 : Nat) (a_p2 : Option Addr) (c_p2 : Nat) (p2 : List Int) (r : Int) (w : World) (M : List Nat) (hms : MS w [[b_p2], M]) (hs_p2 : SlR (eInt .i64) w (fl [[b_p2], M]) a_p2 c_p2 p2) (hb_p2 : w.heap[b_p2]? = some (.cells #[Vl a_p2 p2 c_p2] 22 (0, 0))) (h : assign_order_1 p0 p1 p2 = some r) : CallVC Tryz.prog 132 [Vi p0, Vi p1, Vp b_p2 0] w fun v w' => v = Vi r ∧ Ev [b_p2] w w' ∧ w'.heap[b_p2]? = some (.cells #[Vl a_p2 p2 c_p2] 22 (0, 0)) := by
 refine calls_vc hmx Tryz.func132 (by kernel_rfl) rfl (rs := [.tmp 5]) rfl (by kernel_rfl) (args := [Vi p0, Vi p1, Vp b_p2 0]) rfl ?_
 have hev : Ev [b_p2] w w := Ev.refl _ _
 refine c_sp (x_u 1 [(5, Vi 0)] (x_ek (c_seq (c_drawn [] [(0, false), (1, false), (2, false), (3, false), (4, false), (5, false), (6, false), (7, false), (8, false), (9, false)] _ (by kernel_rfl) rfl ?_))))
 have hst := Stp.ext (ls := [[b_p2], M]) (Ev.drew w)
 replace hs_p2 := hs_p2.step hst
 replace hb_p2 := (Ev.drew w).box hb_p2 nn
 replace hev := hev.ext (Ev.drew w)
 refine x_load (xv := Vp b_p2 0) (Vl a_p2 p2 c_p2) rfl rfl rfl (reads_box tcell22 hb_p2 nn 0 _ rfl) (x_u 1 [(7, Vi p1)] ?_)
 obtain ⟨x3, hx3, h⟩ := bind_some h
 obtain ⟨ad3, cs3, hr3, hc3, hR⟩ := reads_index (Mo := []) tsl22 hs_p2 hx3
 obtain rfl := hR
 refine x_indexAddr (xv := Vl a_p2 p2 c_p2) (yv := Vi p1) (.pointer (some ad3)) rfl rfl rfl rfl hr3 (x_load (xv := .pointer (some ad3)) (Vi x3) rfl rfl rfl (reads_cell0 tcell3 hc3 (fun _ h => by cases h)) ?_)
 refine x_load (xv := Vp b_p2 0) (Vl a_p2 p2 c_p2) rfl rfl rfl (reads_box tcell22 hb_p2 nn 0 _ rfl) (x_u 1 [(11, Vi p0)] ?_)
 obtain ⟨x5, hx5, h⟩ := bind_some h
 obtain ⟨ad5, cs5, hr5, hc5, hR⟩ := reads_index (Mo := []) tsl22 hs_p2 hx5
 obtain rfl := hR
 refine x_indexAddr (xv := Vl a_p2 p2 c_p2) (yv := Vi p0) (.pointer (some ad5)) rfl rfl rfl rfl hr5 (x_load (xv := .pointer (some ad5)) (Vi x5) rfl rfl rfl (reads_cell0 tcell3 hc5 (fun _ h => by cases h)) ?_)
 refine x_u 2 [(14, Vi (IntKind.i64.wrap (x3 - x5))), (5, Vi (IntKind.i64.wrap (x3 - x5)))] (x_ek (c_ret (r_ret (r_vals [Vi (IntKind.i64.wrap (x3 - x5))] ⟨rfl, trivial⟩ ?_))))
 obtain rfl := some_inj h
 exact ⟨rfl, hev, hb_p2⟩
def slices_insertionSortCmpFunc_int__L6 (p1 : Int) (p400 : List Int) (s : (List Int) × Int) : Option (Step ((List Int) × Int) (List Int)) :=
match s with
| (d1_l6, j_s9_l6) =>
(if (decide (j_s9_l6 > p1)) = true then
((idx d1_l6 j_s9_l6).bind fun x8 =>
((idx d1_l6 (IntKind.i64.wrap (j_s9_l6 - 1))).bind fun x10 =>
((assign_order_1 x8 x10 p400).bind fun x13 =>
(if (decide (x13 < 0)) = true then
((idx d1_l6 (IntKind.i64.wrap (j_s9_l6 - 1))).bind fun x15 =>
((idx d1_l6 j_s9_l6).bind fun x17 =>
((idx d1_l6 j_s9_l6).bind fun x19 =>
((idx (d1_l6.set (Int.toNat j_s9_l6) x15) (IntKind.i64.wrap (j_s9_l6 - 1))).bind fun x22 =>
some (.next (((d1_l6.set (Int.toNat j_s9_l6) x15).set (Int.toNat (IntKind.i64.wrap (j_s9_l6 - 1))) x17), IntKind.i64.wrap (j_s9_l6 - 1)))))))
else
some (.done d1_l6)))))
else
some (.done d1_l6))
def slices_insertionSortCmpFunc_int__L4 (p1 : Int) (p2 : Int) (p400 : List Int) (s : (List Int) × Int) : Option (Step ((List Int) × Int) (List Int)) :=
match s with
| (d1_l4, i_s8_l4) =>
(if (decide (i_s8_l4 < p2)) = true then
((loop (slices_insertionSortCmpFunc_int__L6 p1 p400) (d1_l4, i_s8_l4)).bind fun d => match d with
| d1_x6 => some (.next (d1_x6, IntKind.i64.wrap (i_s8_l4 + 1))))
else
some (.done d1_l4))
def slices_insertionSortCmpFunc_int_ (p0 : List Int) (p1 : Int) (p2 : Int) (p400 : List Int) : Option (List Int) :=
((loop (slices_insertionSortCmpFunc_int__L4 p1 p2 p400) (p0, IntKind.i64.wrap (p1 + 1))).bind fun d => match d with
| d1_x4 => some d1_x4)
theorem slices_insertionSortCmpFunc_int__w (a_p0 : Option Addr) (c_p0 : Nat) (p0 : List Int) (p1 : Int) (p2 : Int) (b_p400 : Nat) (a_p400 : Option Addr) (c_p400 : Nat) (p400 : List Int) (r : (List Int)) (w : World) (M : List Nat) (hms : MS w [blk a_p0, [b_p400], M]) (hs_p0 : OwnS (eInt .i64) 3 w (fl [blk a_p0, [b_p400], M]) a_p0 c_p0 p0) (hs_p400 : SlR (eInt .i64) w (fl [blk a_p0, [b_p400], M]) a_p400 c_p400 p400) (hb_p400 : w.heap[b_p400]? = some (.cells #[.slice a_p400 (p400).length c_p400] 22 (0, 0))) (h : slices_insertionSortCmpFunc_int_ p0 p1 p2 p400 = some r) : CallVC Tryz.prog 136 [.slice a_p0 (p0).length c_p0, Vi p1, Vi p2, (.func (.func 132) #[] #[Vp b_p400 0])] w fun v w' => v = .tuple #[] ∧ Ev (fl [blk a_p0, [b_p400]]) w w' ∧ OwnS (eInt .i64) 3 w' (fl [blk a_p0, [b_p400], M]) a_p0 c_p0 r ∧ w'.heap[b_p400]? = some (.cells #[.slice a_p400 (p400).length c_p400] 22 (0, 0)) ∧ MS w' [blk a_p0, [b_p400], M] ∧ FR w.heap.size [] ∧ NP (fl [blk a_p0, [b_p400]]) w.heap.size [blk a_p0, [b_p400]] := by
 refine calls_vc hmx Tryz.func136 (by kernel_rfl) rfl (rs := []) rfl (by kernel_rfl) (args := [.slice a_p0 (p0).length c_p0, Vi p1, Vi p2, (.func (.func 132) #[] #[Vp b_p400 0])]) rfl ?_
 have hev : Ev (fl [blk a_p0, [b_p400]]) w w := Ev.refl _ _
 have hfr : FR w.heap.size [] := FR.nil _
 have hpr : NP (fl [blk a_p0, [b_p400]]) w.heap.size [blk a_p0, [b_p400]] := NP.init _ _
 refine c_sp (x_u 3 [(10, Vi p1), (11, Vi (IntKind.i64.wrap (p1 + 1))), (8, Vi (IntKind.i64.wrap (p1 + 1)))] (x_ek (c_block ?_)))
 obtain ⟨d4, hd4, h4⟩ := bind_some h
 obtain ⟨m4, hd4⟩ := loop_some hd4
 refine c_loop (loop_rule hmx (σ := Nat × (List Int) × Int) (fun s => match s with | (_, d1_l4, i_s8_l4) => [(0, .slice a_p0 (d1_l4).length c_p0), (1, Vi p1), (2, Vi p2), (3, (.func (.func 132) #[] #[Vp b_p400 0])), (8, Vi i_s8_l4)]) (fun s w' => match s with | (m, d1_l4, i_s8_l4) => loopN (slices_insertionSortCmpFunc_int__L4 p1 p2 p400) m (d1_l4, i_s8_l4) = some d4 ∧ Ev (fl [blk a_p0, [b_p400]]) w w' ∧ MS w' [blk a_p0, [b_p400], M] ∧ FR w.heap.size [] ∧ NP (fl [blk a_p0, [b_p400]]) w.heap.size [blk a_p0, [b_p400]] ∧ OwnS (eInt .i64) 3 w' (fl [blk a_p0, [b_p400], M]) a_p0 c_p0 d1_l4 ∧ SlR (eInt .i64) w' (fl [blk a_p0, [b_p400], M]) a_p400 c_p400 p400 ∧ w'.heap[b_p400]? = some (.cells #[.slice a_p400 (p400).length c_p400] 22 (0, 0))) (fun s => s.1) (m4, p0, IntKind.i64.wrap (p1 + 1)) ⟨rfl, rfl, rfl, rfl, rfl, trivial⟩ ⟨hd4, hev, hms, hfr, hpr, hs_p0, hs_p400, hb_p400⟩ ?_)
 rintro ⟨m4, d1_l4, i_s8_l4⟩ J wl4 ⟨hn4, hev, hms, hfr, hpr, hs_p0, hs_p400, hb_p400⟩
 rcases m4 with _ | m4
 · exact (loopN_zero hn4).elim
 obtain ⟨t4, h, hn4⟩ := bind_some hn4
 refine c_seq (c_sp (x_u 3 [(12, Vi i_s8_l4), (13, Vi p2), (14, .bool (decide (i_s8_l4 < p2)))] (x_ek (c_nm [(0, .slice a_p0 (d1_l4).length c_p0), (1, Vi p1), (2, Vi p2), (3, (.func (.func 132) #[] #[Vp b_p400 0])), (8, Vi i_s8_l4), (14, .bool (decide (i_s8_l4 < p2)))] (fun J => ?_)))))
 refine c_if (decide (i_s8_l4 < p2)) rfl h (fun h => ?_) (fun h => ?_)
 · refine c_skip (k_then (c_seq (c_block (c_sp (x_u 2 [(17, Vi i_s8_l4), (9, Vi i_s8_l4)] ?_)))))
   refine x_ek (c_block ?_)
   obtain ⟨d6, hd6, h6⟩ := bind_some h
   obtain ⟨m6, hd6⟩ := loop_some hd6
   refine c_loop (loop_rule hmx (σ := Nat × (List Int) × Int) (fun s => match s with | (_, d1_l6, j_s9_l6) => [(0, .slice a_p0 (d1_l6).length c_p0), (1, Vi p1), (2, Vi p2), (3, (.func (.func 132) #[] #[Vp b_p400 0])), (8, Vi i_s8_l4), (9, Vi j_s9_l6)]) (fun s w' => match s with | (m, d1_l6, j_s9_l6) => loopN (slices_insertionSortCmpFunc_int__L6 p1 p400) m (d1_l6, j_s9_l6) = some d6 ∧ Ev (fl [blk a_p0, [b_p400]]) w w' ∧ MS w' [blk a_p0, [b_p400], M] ∧ FR w.heap.size [] ∧ NP (fl [blk a_p0, [b_p400]]) w.heap.size [blk a_p0, [b_p400]] ∧ OwnS (eInt .i64) 3 w' (fl [blk a_p0, [b_p400], M]) a_p0 c_p0 d1_l6 ∧ SlR (eInt .i64) w' (fl [blk a_p0, [b_p400], M]) a_p400 c_p400 p400 ∧ w'.heap[b_p400]? = some (.cells #[.slice a_p400 (p400).length c_p400] 22 (0, 0))) (fun s => s.1) (m6, d1_l4, i_s8_l4) ⟨rfl, rfl, rfl, rfl, rfl, rfl, trivial⟩ ⟨hd6, hev, hms, hfr, hpr, hs_p0, hs_p400, hb_p400⟩ ?_)
   rintro ⟨m6, d1_l6, j_s9_l6⟩ J wl6 ⟨hn6, hev, hms, hfr, hpr, hs_p0, hs_p400, hb_p400⟩
   rcases m6 with _ | m6
   · exact (loopN_zero hn6).elim
   obtain ⟨t6, h, hn6⟩ := bind_some hn6
   refine c_seq (c_seq (c_drawn [] [(0, false), (1, false), (2, false), (3, false), (4, false), (5, false), (6, false), (7, false), (8, false), (9, false), (10, false), (11, false), (12, false), (13, false), (14, true), (15, false), (16, false)] _ (by kernel_rfl) rfl ?_))
   have hst := Stp.ext (ls := [blk a_p0, [b_p400], M]) (Ev.drew wl6)
   replace hs_p0 := hs_p0.step hst (Ev.drew wl6) nn2
   replace hb_p400 := (Ev.drew wl6).box hb_p400 nn
   replace hs_p400 := hs_p400.step hst
   replace hms := hms.ev (Ev.drew wl6)
   replace hev := hev.ext (Ev.drew wl6)
   refine x_u 4 [(18, Vi j_s9_l6), (19, Vi p1), (20, .bool (decide (j_s9_l6 > p1))), (21, .bool (decide (j_s9_l6 > p1)))] (x_if 21 (decide (j_s9_l6 > p1)) rfl h (fun h => ?_) (fun h => ?_))
   · refine x_u 3 [(22, (.func (.func 132) #[] #[Vp b_p400 0])), (23, .slice a_p0 (d1_l6).length c_p0), (24, Vi j_s9_l6)] ?_
     obtain ⟨x8, hx8, h⟩ := bind_some h
     obtain ⟨g8, cs8, ha8, hr8, hc8, hR⟩ := own_index (Mo := []) tsl22 hs_p0 hx8
     obtain rfl := hR
     refine x_indexAddr (xv := .slice a_p0 (d1_l6).length c_p0) (yv := Vi j_s9_l6) (.pointer (some ⟨g8, (Int.toNat j_s9_l6) * (eInt .i64).n, none⟩)) rfl rfl rfl rfl hr8 (x_load (xv := .pointer (some ⟨g8, (Int.toNat j_s9_l6) * (eInt .i64).n, none⟩)) (Vi x8) rfl rfl rfl (reads_cell0 tcell3 hc8 (fun _ h => by cases h)) ?_)
     refine x_u 3 [(27, .slice a_p0 (d1_l6).length c_p0), (28, Vi j_s9_l6), (29, Vi (IntKind.i64.wrap (j_s9_l6 - 1)))] ?_
     obtain ⟨x10, hx10, h⟩ := bind_some h
     obtain ⟨g10, cs10, ha10, hr10, hc10, hR⟩ := own_index (Mo := []) tsl22 hs_p0 hx10
     obtain rfl := hR
     refine x_indexAddr (xv := .slice a_p0 (d1_l6).length c_p0) (yv := Vi (IntKind.i64.wrap (j_s9_l6 - 1))) (.pointer (some ⟨g10, (Int.toNat (IntKind.i64.wrap (j_s9_l6 - 1))) * (eInt .i64).n, none⟩)) rfl rfl rfl rfl hr10 (x_load (xv := .pointer (some ⟨g10, (Int.toNat (IntKind.i64.wrap (j_s9_l6 - 1))) * (eInt .i64).n, none⟩)) (Vi x10) rfl rfl rfl (reads_cell0 tcell3 hc10 (fun _ h => by cases h)) ?_)
     obtain ⟨x13, hx, h⟩ := bind_some h
     have hpk : MS (wl6).drew ([[b_p400]] ++ [blk a_p0, M]) := hms.pick [some 1, some 0, some 2] _ rfl
     have hsb0 : ∀ x ∈ fl ([[b_p400]] ++ [blk a_p0, M]), x ∈ fl [blk a_p0, [b_p400], M] := pick_sub [some 1, some 0, some 2] _ rfl
     have hsb : ∀ x ∈ fl ([[b_p400]] ++ [(fl [blk a_p0, M])]), x ∈ fl [blk a_p0, [b_p400], M] := fun x hx => hsb0 x (fl_unfold x hx)
     have hcall := assign_order_1_w x8 x10 b_p400 a_p400 c_p400 p400 _ (wl6).drew (fl [blk a_p0, M]) (hpk.fold (P := [[b_p400]])) (hs_p400.sub hsb) hb_p400 hx
     refine x_call 132 #[] #[Vp b_p400 0] [Vi x8, Vi x10, Vp b_p400 0] _ rfl rfl rfl rfl hcall ?_
     rintro v w14 ⟨rfl, he14, hp14_0⟩
     clear hcall hx
     refine inl1 ?_
     have hpk2 : MS (wl6).drew ([[b_p400]] ++ [blk a_p0, M]) := hms.pick [some 1, some 0, some 2] _ rfl
     have hsb2 : ∀ x ∈ fl ([[b_p400]] ++ [blk a_p0, M]), x ∈ fl [blk a_p0, [b_p400], M] := pick_sub [some 1, some 0, some 2] _ rfl
     have hst0 := Stp.call (LS := [blk a_p0, [b_p400], M]) (res := []) (par := [[b_p400]]) (R := [blk a_p0, M]) he14 (fun b hb => hsb2 b (fl_left' (P := [[b_p400]]) b hb)) (FR.nil _) (NP.init _ _) (fun x hx => hsb2 x (fl_right' (P := [[b_p400]]) x hx))
     have hsn : ∀ x ∈ fl [blk a_p0, [b_p400], M], x ∈ fl ([] ++ ([[b_p400]] ++ [blk a_p0, M])) := pick_sub [some 1, some 0, some 2] _ rfl
     have hst := hst0.res hsn
     replace hs_p0 := hs_p0.step hst he14 (MS.outs (P := [[b_p400]]) hpk2 0 rfl)
     replace hs_p400 := hs_p400.step hst
     replace hms := hms.ev he14
     have hPf : ∀ b ∈ fl [[b_p400]], b ∈ (fl [blk a_p0, [b_p400]]) ∨ w.heap.size ≤ b := NP.mem (ls := [[b_p400]]) (hpr.pick [some 1] _ rfl)
     replace hev := hev.then he14 hPf
     replace hb_p400 := hp14_0
     clear hpk hsb hsb0 hpk2 hsb2 hst0 hsn hst
     refine x_u 2 [(33, .bool (decide (x13 < 0))), (34, .bool (decide (x13 < 0)))] (x_ek (c_nm [(0, .slice a_p0 (d1_l6).length c_p0), (1, Vi p1), (2, Vi p2), (3, (.func (.func 132) #[] #[Vp b_p400 0])), (8, Vi i_s8_l4), (9, Vi j_s9_l6), (34, .bool (decide (x13 < 0)))] (fun J => ?_)))
     refine c_if (decide (x13 < 0)) rfl h (fun h => ?_) (fun h => ?_)
     · refine c_skip (k_then (c_seq (c_block (c_drawn (blk a_p0) [(0, true), (1, true), (2, false), (3, false), (4, false), (5, true), (6, true), (7, true), (8, true), (9, true), (10, true), (11, true), (12, true), (13, true), (14, true), (15, false), (16, true), (17, true)] _ (by kernel_rfl) rfl ?_))))
       have hst := Stp.ext (ls := [blk a_p0, [b_p400], M]) (Ev.drew w14)
       replace hs_p0 := hs_p0.step hst (Ev.drew w14) nn2
       replace hb_p400 := (Ev.drew w14).box hb_p400 nn
       replace hs_p400 := hs_p400.step hst
       replace hms := hms.ev (Ev.drew w14)
       replace hev := hev.ext (Ev.drew w14)
       refine x_u 8 [(37, .slice a_p0 (d1_l6).length c_p0), (38, Vi j_s9_l6), (39, .slice a_p0 (d1_l6).length c_p0), (40, Vi j_s9_l6), (41, Vi (IntKind.i64.wrap (j_s9_l6 - 1))), (42, .slice a_p0 (d1_l6).length c_p0), (43, Vi j_s9_l6), (44, Vi (IntKind.i64.wrap (j_s9_l6 - 1)))] ?_
       obtain ⟨x15, hx15, h⟩ := bind_some h
       obtain ⟨g15, cs15, ha15, hr15, hc15, hR⟩ := own_index (Mo := []) tsl22 hs_p0 hx15
       obtain rfl := hR
       refine x_indexAddr (xv := .slice a_p0 (d1_l6).length c_p0) (yv := Vi (IntKind.i64.wrap (j_s9_l6 - 1))) (.pointer (some ⟨g15, (Int.toNat (IntKind.i64.wrap (j_s9_l6 - 1))) * (eInt .i64).n, none⟩)) rfl rfl rfl rfl hr15 (x_load (xv := .pointer (some ⟨g15, (Int.toNat (IntKind.i64.wrap (j_s9_l6 - 1))) * (eInt .i64).n, none⟩)) (Vi x15) rfl rfl rfl (reads_cell0 tcell3 hc15 (fun _ h => by cases h)) ?_)
       refine x_u 2 [(47, .slice a_p0 (d1_l6).length c_p0), (48, Vi j_s9_l6)] ?_
       obtain ⟨x17, hx17, h⟩ := bind_some h
       obtain ⟨g17, cs17, ha17, hr17, hc17, hR⟩ := own_index (Mo := []) tsl22 hs_p0 hx17
       obtain rfl := hR
       refine x_indexAddr (xv := .slice a_p0 (d1_l6).length c_p0) (yv := Vi j_s9_l6) (.pointer (some ⟨g17, (Int.toNat j_s9_l6) * (eInt .i64).n, none⟩)) rfl rfl rfl rfl hr17 (x_load (xv := .pointer (some ⟨g17, (Int.toNat j_s9_l6) * (eInt .i64).n, none⟩)) (Vi x17) rfl rfl rfl (reads_cell0 tcell3 hc17 (fun _ h => by cases h)) ?_)
       obtain ⟨x19, hx19, h⟩ := bind_some h
       obtain ⟨g19, cs19, ha19, hr19, hc19, hR⟩ := own_index (Mo := []) tsl22 hs_p0 hx19
       obtain rfl := hR
       refine x_indexAddr (xv := .slice a_p0 (d1_l6).length c_p0) (yv := Vi j_s9_l6) (.pointer (some ⟨g19, (Int.toNat j_s9_l6) * (eInt .i64).n, none⟩)) rfl rfl rfl rfl hr19 ?_
       have hxs20_16 := hx15
       have hxs20_18 := hx17
       obtain ⟨w21, hr21, he21, ho21⟩ := own_storeE ha19 (y := x15) 0 (Vi x15) tcell3 hs_p0 (mem_flat 0 rfl) hx19 rfl rfl (fun _ _ _ hR => set_int hR)
       refine x_store w21 (xv := .pointer (some ⟨g19, (Int.toNat j_s9_l6) * (eInt .i64).n, none⟩)) (yv := Vi x15) rfl rfl rfl rfl hr21 (⟨.inr he21, ?_⟩)
       have hst := Stp.ev' (ls := [blk a_p0, [b_p400], M]) he21 (mem_flat 0 rfl)
       replace hb_p400 := he21.box hb_p400 (hms.apart 1 0 rfl rfl rfl _ mem1)
       replace hs_p400 := hs_p400.step hst
       replace hms := hms.ev he21
       replace hev := hev.then he21 (hpr.at 0 rfl)
       replace hs_p0 := ho21
       have hsl : (Value.slice a_p0 (d1_l6).length c_p0) = (Value.slice a_p0 ((d1_l6.set (Int.toNat j_s9_l6) x15)).length c_p0) := by first | (rw [List.length_set]; done) | simp only [List.length_set]
       try rw [hsl]
       clear hsl
       obtain ⟨_, hxs20_16⟩ : ∃ y, idx (d1_l6.set (Int.toNat j_s9_l6) x15) (IntKind.i64.wrap (j_s9_l6 - 1)) = some y := idx_set_any hxs20_16 _ _
       obtain ⟨_, hxs20_18⟩ : ∃ y, idx (d1_l6.set (Int.toNat j_s9_l6) x15) j_s9_l6 = some y := idx_set_any hxs20_18 _ _
       obtain ⟨x22, hx22, h⟩ := bind_some h
       obtain ⟨g22, cs22, ha22, hr22, hc22, hR⟩ := own_index (Mo := []) tsl22 hs_p0 hx22
       obtain rfl := hR
       refine x_indexAddr (xv := .slice a_p0 ((d1_l6.set (Int.toNat j_s9_l6) x15)).length c_p0) (yv := Vi (IntKind.i64.wrap (j_s9_l6 - 1))) (.pointer (some ⟨g22, (Int.toNat (IntKind.i64.wrap (j_s9_l6 - 1))) * (eInt .i64).n, none⟩)) rfl rfl rfl rfl hr22 ?_
       have hxs23_16 := hxs20_16
       have hxs23_18 := hxs20_18
       obtain ⟨w24, hr24, he24, ho24⟩ := own_storeE ha22 (y := x17) 0 (Vi x17) tcell3 hs_p0 (mem_flat 0 rfl) hx22 rfl rfl (fun _ _ _ hR => set_int hR)
       refine x_store w24 (xv := .pointer (some ⟨g22, (Int.toNat (IntKind.i64.wrap (j_s9_l6 - 1))) * (eInt .i64).n, none⟩)) (yv := Vi x17) rfl rfl rfl rfl hr24 (inl1 ?_)
       have hst := Stp.ev' (ls := [blk a_p0, [b_p400], M]) he24 (mem_flat 0 rfl)
       replace hb_p400 := he24.box hb_p400 (hms.apart 1 0 rfl rfl rfl _ mem1)
       replace hs_p400 := hs_p400.step hst
       replace hms := hms.ev he24
       replace hev := hev.then he24 (hpr.at 0 rfl)
       replace hs_p0 := ho24
       have hsl : (Value.slice a_p0 ((d1_l6.set (Int.toNat j_s9_l6) x15)).length c_p0) = (Value.slice a_p0 (((d1_l6.set (Int.toNat j_s9_l6) x15).set (Int.toNat (IntKind.i64.wrap (j_s9_l6 - 1))) x17)).length c_p0) := by first | (rw [List.length_set]; done) | simp only [List.length_set]
       try rw [hsl]
       clear hsl
       obtain ⟨_, hxs23_16⟩ : ∃ y, idx ((d1_l6.set (Int.toNat j_s9_l6) x15).set (Int.toNat (IntKind.i64.wrap (j_s9_l6 - 1))) x17) (IntKind.i64.wrap (j_s9_l6 - 1)) = some y := idx_set_any hxs23_16 _ _
       obtain ⟨_, hxs23_18⟩ : ∃ y, idx ((d1_l6.set (Int.toNat j_s9_l6) x15).set (Int.toNat (IntKind.i64.wrap (j_s9_l6 - 1))) x17) j_s9_l6 = some y := idx_set_any hxs23_18 _ _
       refine x_end rfl (k_block (k_then (c_nm [(0, .slice a_p0 (((d1_l6.set (Int.toNat j_s9_l6) x15).set (Int.toNat (IntKind.i64.wrap (j_s9_l6 - 1))) x17)).length c_p0), (1, Vi p1), (2, Vi p2), (3, (.func (.func 132) #[] #[Vp b_p400 0])), (8, Vi i_s8_l4), (9, Vi j_s9_l6)] (fun J => ?_))))
       refine c_plain (x_u 3 [(35, Vi j_s9_l6), (36, Vi (IntKind.i64.wrap (j_s9_l6 - 1))), (9, Vi (IntKind.i64.wrap (j_s9_l6 - 1)))] (x_end rfl ?_))
       obtain rfl := some_inj h
       exact k_then ⟨(m6, ((d1_l6.set (Int.toNat j_s9_l6) x15).set (Int.toNat (IntKind.i64.wrap (j_s9_l6 - 1))) x17), IntKind.i64.wrap (j_s9_l6 - 1)), ⟨rfl, rfl, rfl, rfl, rfl, rfl, trivial⟩, ⟨hn6, hev, hms, hfr, hpr, hs_p0, hs_p400, hb_p400⟩, Nat.lt_succ_self _⟩
     refine c_exit (k_then_exit ?_)
     obtain rfl := some_inj h
     have hy := some_inj hn6
     subst hy
     replace h := h6
     refine k_then_exit (k_block_in (k_block (k_then (c_nm [(0, .slice a_p0 (d1_l6).length c_p0), (1, Vi p1), (2, Vi p2), (3, (.func (.func 132) #[] #[Vp b_p400 0])), (8, Vi i_s8_l4)] (fun J => ?_)))))
     refine c_plain (x_u 3 [(15, Vi i_s8_l4), (16, Vi (IntKind.i64.wrap (i_s8_l4 + 1))), (8, Vi (IntKind.i64.wrap (i_s8_l4 + 1)))] (x_end rfl ?_))
     obtain rfl := some_inj h
     exact k_then ⟨(m4, d1_l6, IntKind.i64.wrap (i_s8_l4 + 1)), ⟨rfl, rfl, rfl, rfl, rfl, trivial⟩, ⟨hn4, hev, hms, hfr, hpr, hs_p0, hs_p400, hb_p400⟩, Nat.lt_succ_self _⟩
   refine x_u 13 [(22, undef), (23, undef), (24, undef), (25, undef), (26, undef), (27, undef), (28, undef), (29, undef), (30, undef), (31, undef), (32, undef), (33, undef), (34, .bool false)] (x_ek (c_nm [(0, .slice a_p0 (d1_l6).length c_p0), (1, Vi p1), (2, Vi p2), (3, (.func (.func 132) #[] #[Vp b_p400 0])), (8, Vi i_s8_l4), (9, Vi j_s9_l6), (34, .bool false)] (fun J => ?_)))
   refine c_false rfl (c_exit (k_then_exit ?_))
   obtain rfl := some_inj h
   have hy := some_inj hn6
   subst hy
   replace h := h6
   refine k_then_exit (k_block_in (k_block (k_then (c_nm [(0, .slice a_p0 (d1_l6).length c_p0), (1, Vi p1), (2, Vi p2), (3, (.func (.func 132) #[] #[Vp b_p400 0])), (8, Vi i_s8_l4)] (fun J => ?_)))))
   refine c_plain (x_u 3 [(15, Vi i_s8_l4), (16, Vi (IntKind.i64.wrap (i_s8_l4 + 1))), (8, Vi (IntKind.i64.wrap (i_s8_l4 + 1)))] (x_end rfl ?_))
   obtain rfl := some_inj h
   exact k_then ⟨(m4, d1_l6, IntKind.i64.wrap (i_s8_l4 + 1)), ⟨rfl, rfl, rfl, rfl, rfl, trivial⟩, ⟨hn4, hev, hms, hfr, hpr, hs_p0, hs_p400, hb_p400⟩, Nat.lt_succ_self _⟩
 refine c_exit (k_then_exit ?_)
 obtain rfl := some_inj h
 have hy := some_inj hn4
 subst hy
 replace h := h4
 refine k_then_exit (k_block_in (r_normal (r_vals [] trivial ?_)))
 obtain rfl := some_inj h
 have hmr := hms.pick [some 0, some 1, some 2] [blk a_p0, [b_p400], M] rfl
 have hsu := pick_sub (ls := [blk a_p0, [b_p400], M]) [some 0, some 1, some 2] [blk a_p0, [b_p400], M] rfl
 have hfe := hfr.pick [] [] rfl
 exact ⟨rfl, hev, hs_p0.sub hsu, hb_p400, hmr, hfe, (NP.cons (hpr.at 0 rfl) (NP.cons (hpr.at 1 rfl) (NP.nil _ _)))⟩
def slices_stableCmpFunc_int__L14 (p1 : Int) (blockSize_s6_l11 : Int) (s : Unit) : Option (Step Unit Unit) :=
(if (decide ((IntKind.i64.wrap (2 * blockSize_s6_l11)) ≤ p1)) = true then
none
else
some (.done ()))
def slices_stableCmpFunc_int__L11 (p1 : Int) (s : Int) : Option (Step Int Unit) :=
match s with
| blockSize_s6_l11 =>
(if (decide (blockSize_s6_l11 < p1)) = true then
((loop (slices_stableCmpFunc_int__L14 p1 blockSize_s6_l11) ()).bind fun d => match d with
| _ => (if (decide ((IntKind.i64.wrap (0 + blockSize_s6_l11)) < p1)) = true then
none
else
some (.next (IntKind.i64.wrap (blockSize_s6_l11 * 2)))))
else
some (.done ()))
def slices_stableCmpFunc_int__L5 (p1 : Int) (p300 : List Int) (s : (List Int) × Int × Int) : Option (Step ((List Int) × Int × Int) ((List Int) × Int)) :=
match s with
| (d1_l5, a_s7_l5, b_s8_l5) =>
(if (decide (b_s8_l5 ≤ p1)) = true then
((slices_insertionSortCmpFunc_int_ d1_l5 a_s7_l5 b_s8_l5 p300).bind fun x7 =>
(if x7.length = d1_l5.length then
some (.next (x7, b_s8_l5, IntKind.i64.wrap (b_s8_l5 + 20)))
else none))
else
some (.done (d1_l5, a_s7_l5)))
def slices_stableCmpFunc_int_ (p0 : List Int) (p1 : Int) (p300 : List Int) : Option (List Int) :=
((loop (slices_stableCmpFunc_int__L5 p1 p300) (p0, 0, 20)).bind fun d => match d with
| (d1_x5, a_s7_x5) => ((slices_insertionSortCmpFunc_int_ d1_x5 a_s7_x5 p1 p300).bind fun x9 =>
(if x9.length = d1_x5.length then
((loop (slices_stableCmpFunc_int__L11 p1) 20).bind fun d => match d with
| _ => some x9)
else none)))
theorem slices_stableCmpFunc_int__w (a_p0 : Option Addr) (c_p0 : Nat) (p0 : List Int) (p1 : Int) (b_p300 : Nat) (a_p300 : Option Addr) (c_p300 : Nat) (p300 : List Int) (r : (List Int)) (w : World) (M : List Nat) (hms : MS w [blk a_p0, [b_p300], M]) (hs_p0 : OwnS (eInt .i64) 3 w (fl [blk a_p0, [b_p300], M]) a_p0 c_p0 p0) (hs_p300 : SlR (eInt .i64) w (fl [blk a_p0, [b_p300], M]) a_p300 c_p300 p300) (hb_p300 : w.heap[b_p300]? = some (.cells #[.slice a_p300 (p300).length c_p300] 22 (0, 0))) (h : slices_stableCmpFunc_int_ p0 p1 p300 = some r) : CallVC Tryz.prog 146 [.slice a_p0 (p0).length c_p0, Vi p1, (.func (.func 132) #[] #[Vp b_p300 0])] w fun v w' => v = .tuple #[] ∧ Ev (fl [blk a_p0, [b_p300]]) w w' ∧ OwnS (eInt .i64) 3 w' (fl [blk a_p0, [b_p300], M]) a_p0 c_p0 r ∧ w'.heap[b_p300]? = some (.cells #[.slice a_p300 (p300).length c_p300] 22 (0, 0)) ∧ MS w' [blk a_p0, [b_p300], M] ∧ FR w.heap.size [] ∧ NP (fl [blk a_p0, [b_p300]]) w.heap.size [blk a_p0, [b_p300]] := by
 refine calls_vc hmx Tryz.func146 (by kernel_rfl) rfl (rs := []) rfl (by kernel_rfl) (args := [.slice a_p0 (p0).length c_p0, Vi p1, (.func (.func 132) #[] #[Vp b_p300 0])]) rfl ?_
 have hev : Ev (fl [blk a_p0, [b_p300]]) w w := Ev.refl _ _
 have hfr : FR w.heap.size [] := FR.nil _
 have hpr : NP (fl [blk a_p0, [b_p300]]) w.heap.size [blk a_p0, [b_p300]] := NP.init _ _
 refine c_sp (x_u 1 [(6, Vi 20)] (x_ek (c_sp (x_u 3 [(10, Vi 20), (7, Vi 0), (8, Vi 20)] (x_ek ?_)))))
 refine c_seq (c_block ?_)
 obtain ⟨d5, hd5, h5⟩ := bind_some h
 obtain ⟨m5, hd5⟩ := loop_some hd5
 refine c_loop (loop_rule hmx (σ := Nat × (List Int) × Int × Int) (fun s => match s with | (_, d1_l5, a_s7_l5, b_s8_l5) => [(0, .slice a_p0 (d1_l5).length c_p0), (1, Vi p1), (2, (.func (.func 132) #[] #[Vp b_p300 0])), (6, Vi 20), (7, Vi a_s7_l5), (8, Vi b_s8_l5)]) (fun s w' => match s with | (m, d1_l5, a_s7_l5, b_s8_l5) => loopN (slices_stableCmpFunc_int__L5 p1 p300) m (d1_l5, a_s7_l5, b_s8_l5) = some d5 ∧ Ev (fl [blk a_p0, [b_p300]]) w w' ∧ MS w' [blk a_p0, [b_p300], M] ∧ FR w.heap.size [] ∧ NP (fl [blk a_p0, [b_p300]]) w.heap.size [blk a_p0, [b_p300]] ∧ OwnS (eInt .i64) 3 w' (fl [blk a_p0, [b_p300], M]) a_p0 c_p0 d1_l5 ∧ SlR (eInt .i64) w' (fl [blk a_p0, [b_p300], M]) a_p300 c_p300 p300 ∧ w'.heap[b_p300]? = some (.cells #[.slice a_p300 (p300).length c_p300] 22 (0, 0))) (fun s => s.1) (m5, p0, 0, 20) ⟨rfl, rfl, rfl, rfl, rfl, rfl, trivial⟩ ⟨hd5, hev, hms, hfr, hpr, hs_p0, hs_p300, hb_p300⟩ ?_)
 rintro ⟨m5, d1_l5, a_s7_l5, b_s8_l5⟩ J wl5 ⟨hn5, hev, hms, hfr, hpr, hs_p0, hs_p300, hb_p300⟩
 rcases m5 with _ | m5
 · exact (loopN_zero hn5).elim
 obtain ⟨t5, h, hn5⟩ := bind_some hn5
 refine c_seq (c_sp (x_u 3 [(11, Vi b_s8_l5), (12, Vi p1), (13, .bool (decide (b_s8_l5 ≤ p1)))] (x_ek (c_nm [(0, .slice a_p0 (d1_l5).length c_p0), (1, Vi p1), (2, (.func (.func 132) #[] #[Vp b_p300 0])), (6, Vi 20), (7, Vi a_s7_l5), (8, Vi b_s8_l5), (13, .bool (decide (b_s8_l5 ≤ p1)))] (fun J => ?_)))))
 refine c_if (decide (b_s8_l5 ≤ p1)) rfl h (fun h => ?_) (fun h => ?_)
 · refine c_skip (k_then (c_block (c_sp (x_u 4 [(14, .slice a_p0 (d1_l5).length c_p0), (15, Vi a_s7_l5), (16, Vi b_s8_l5), (17, (.func (.func 132) #[] #[Vp b_p300 0]))] ?_))))
   obtain ⟨x7, hx, h⟩ := bind_some h
   have hpk : MS wl5 ([blk a_p0, [b_p300]] ++ [M]) := hms.pick [some 0, some 1, some 2] _ rfl
   have hsb0 : ∀ x ∈ fl ([blk a_p0, [b_p300]] ++ [M]), x ∈ fl [blk a_p0, [b_p300], M] := pick_sub [some 0, some 1, some 2] _ rfl
   have hsb : ∀ x ∈ fl ([blk a_p0, [b_p300]] ++ [(fl [M])]), x ∈ fl [blk a_p0, [b_p300], M] := fun x hx => hsb0 x (fl_unfold x hx)
   have hcall := slices_insertionSortCmpFunc_int__w a_p0 c_p0 d1_l5 a_s7_l5 b_s8_l5 b_p300 a_p300 c_p300 p300 _ wl5 (fl [M]) (hpk.fold (P := [blk a_p0, [b_p300]])) (hs_p0.sub hsb) (hs_p300.sub hsb) hb_p300 hx
   refine x_call 136 #[] #[] [.slice a_p0 (d1_l5).length c_p0, Vi a_s7_l5, Vi b_s8_l5, (.func (.func 132) #[] #[Vp b_p300 0])] _ rfl rfl rfl rfl hcall ?_
   rintro v w8 ⟨rfl, he8, hp8_0, hp8_1, hmn8, hfn8, hnp8⟩
   clear hcall hx
   refine inl1 ?_
   have hpk2 : MS wl5 ([blk a_p0, [b_p300]] ++ [M]) := hms.pick [some 0, some 1, some 2] _ rfl
   have hsb2 : ∀ x ∈ fl ([blk a_p0, [b_p300]] ++ [M]), x ∈ fl [blk a_p0, [b_p300], M] := pick_sub [some 0, some 1, some 2] _ rfl
   have hst0 := Stp.call (LS := [blk a_p0, [b_p300], M]) (res := []) (par := [blk a_p0, [b_p300]]) (R := [M]) he8 (fun b hb => hsb2 b (fl_left' (P := [blk a_p0, [b_p300]]) b hb)) hfn8 hnp8 (fun x hx => hsb2 x (fl_right' (P := [blk a_p0, [b_p300]]) x hx))
   have hsn : ∀ x ∈ fl [blk a_p0, [b_p300], M], x ∈ fl ([] ++ ([blk a_p0, [b_p300]] ++ [M])) := pick_sub [some 0, some 1, some 2] _ rfl
   have hst := hst0.res hsn
   replace hs_p300 := hs_p300.step hst
   replace hms : MS w8 [blk a_p0, [b_p300], M] := (MS.call (P := [blk a_p0, [b_p300]]) (R := [M]) (res := []) (par := [blk a_p0, [b_p300]]) hpk2 he8 hmn8 hfn8 hnp8).pick [some 0, some 1, some 2] _ rfl
   have hPf : ∀ b ∈ fl [blk a_p0, [b_p300]], b ∈ (fl [blk a_p0, [b_p300]]) ∨ w.heap.size ≤ b := NP.mem (ls := [blk a_p0, [b_p300]]) (hpr.pick [some 0, some 1] _ rfl)
   have hpr2 : NP (fl [blk a_p0, [b_p300]]) w.heap.size [blk a_p0, [b_p300]] := (NP.cons (fun b hb => (hnp8.at 0 rfl b hb).elim (fun h => hPf b h) (fun h => .inr (Nat.le_trans hev.size h))) (NP.cons (fun b hb => (hnp8.at 1 rfl b hb).elim (fun h => hPf b h) (fun h => .inr (Nat.le_trans hev.size h))) (NP.nil _ _)))
   replace hev := hev.then he8 hPf
   replace hpr := hpr2
   clear hpr2
   replace hb_p300 := hp8_1
   replace hs_p0 := OwnS.plain (M' := fl [blk a_p0, [b_p300], M]) (plain_int _) hp8_0
   clear hpk hsb hsb0 hpk2 hsb2 hst0 hsn hst
   have hgl := guard_l h
   replace h := guard_r h
   have hsl : (Value.slice a_p0 (d1_l5).length c_p0) = (Value.slice a_p0 (x7).length c_p0) := by first | (rw [hgl]; done) | simp only [hgl]
   try rw [hsl]
   clear hsl
   refine x_ek (c_sp (x_u 2 [(19, Vi b_s8_l5), (7, Vi b_s8_l5)] (x_ek (c_plain (x_u 4 [(20, Vi b_s8_l5), (21, Vi 20), (22, Vi (IntKind.i64.wrap (b_s8_l5 + 20))), (8, Vi (IntKind.i64.wrap (b_s8_l5 + 20)))] ?_)))))
   refine x_end rfl (k_block ?_)
   obtain rfl := some_inj h
   exact k_then ⟨(m5, x7, b_s8_l5, IntKind.i64.wrap (b_s8_l5 + 20)), ⟨rfl, rfl, rfl, rfl, rfl, rfl, trivial⟩, ⟨hn5, hev, hms, hfr, hpr, hs_p0, hs_p300, hb_p300⟩, Nat.lt_succ_self _⟩
 refine c_exit (k_then_exit ?_)
 obtain rfl := some_inj h
 have hy := some_inj hn5
 subst hy
 replace h := h5
 refine k_then_exit (k_block_in (k_then (c_nm [(0, .slice a_p0 (d1_l5).length c_p0), (1, Vi p1), (2, (.func (.func 132) #[] #[Vp b_p300 0])), (6, Vi 20), (7, Vi a_s7_l5)] (fun J => ?_))))
 refine c_sp (x_u 4 [(23, .slice a_p0 (d1_l5).length c_p0), (24, Vi a_s7_l5), (25, Vi p1), (26, (.func (.func 132) #[] #[Vp b_p300 0]))] ?_)
 obtain ⟨x9, hx, h⟩ := bind_some h
 have hpk : MS wl5 ([blk a_p0, [b_p300]] ++ [M]) := hms.pick [some 0, some 1, some 2] _ rfl
 have hsb0 : ∀ x ∈ fl ([blk a_p0, [b_p300]] ++ [M]), x ∈ fl [blk a_p0, [b_p300], M] := pick_sub [some 0, some 1, some 2] _ rfl
 have hsb : ∀ x ∈ fl ([blk a_p0, [b_p300]] ++ [(fl [M])]), x ∈ fl [blk a_p0, [b_p300], M] := fun x hx => hsb0 x (fl_unfold x hx)
 have hcall := slices_insertionSortCmpFunc_int__w a_p0 c_p0 d1_l5 a_s7_l5 p1 b_p300 a_p300 c_p300 p300 _ wl5 (fl [M]) (hpk.fold (P := [blk a_p0, [b_p300]])) (hs_p0.sub hsb) (hs_p300.sub hsb) hb_p300 hx
 refine x_call 136 #[] #[] [.slice a_p0 (d1_l5).length c_p0, Vi a_s7_l5, Vi p1, (.func (.func 132) #[] #[Vp b_p300 0])] _ rfl rfl rfl rfl hcall ?_
 rintro v w10 ⟨rfl, he10, hp10_0, hp10_1, hmn10, hfn10, hnp10⟩
 clear hcall hx
 refine inl1 ?_
 have hpk2 : MS wl5 ([blk a_p0, [b_p300]] ++ [M]) := hms.pick [some 0, some 1, some 2] _ rfl
 have hsb2 : ∀ x ∈ fl ([blk a_p0, [b_p300]] ++ [M]), x ∈ fl [blk a_p0, [b_p300], M] := pick_sub [some 0, some 1, some 2] _ rfl
 have hst0 := Stp.call (LS := [blk a_p0, [b_p300], M]) (res := []) (par := [blk a_p0, [b_p300]]) (R := [M]) he10 (fun b hb => hsb2 b (fl_left' (P := [blk a_p0, [b_p300]]) b hb)) hfn10 hnp10 (fun x hx => hsb2 x (fl_right' (P := [blk a_p0, [b_p300]]) x hx))
 have hsn : ∀ x ∈ fl [blk a_p0, [b_p300], M], x ∈ fl ([] ++ ([blk a_p0, [b_p300]] ++ [M])) := pick_sub [some 0, some 1, some 2] _ rfl
 have hst := hst0.res hsn
 replace hs_p300 := hs_p300.step hst
 replace hms : MS w10 [blk a_p0, [b_p300], M] := (MS.call (P := [blk a_p0, [b_p300]]) (R := [M]) (res := []) (par := [blk a_p0, [b_p300]]) hpk2 he10 hmn10 hfn10 hnp10).pick [some 0, some 1, some 2] _ rfl
 have hPf : ∀ b ∈ fl [blk a_p0, [b_p300]], b ∈ (fl [blk a_p0, [b_p300]]) ∨ w.heap.size ≤ b := NP.mem (ls := [blk a_p0, [b_p300]]) (hpr.pick [some 0, some 1] _ rfl)
 have hpr2 : NP (fl [blk a_p0, [b_p300]]) w.heap.size [blk a_p0, [b_p300]] := (NP.cons (fun b hb => (hnp10.at 0 rfl b hb).elim (fun h => hPf b h) (fun h => .inr (Nat.le_trans hev.size h))) (NP.cons (fun b hb => (hnp10.at 1 rfl b hb).elim (fun h => hPf b h) (fun h => .inr (Nat.le_trans hev.size h))) (NP.nil _ _)))
 replace hev := hev.then he10 hPf
 replace hpr := hpr2
 clear hpr2
 replace hb_p300 := hp10_1
 replace hs_p0 := OwnS.plain (M' := fl [blk a_p0, [b_p300], M]) (plain_int _) hp10_0
 clear hpk hsb hsb0 hpk2 hsb2 hst0 hsn hst
 have hgl := guard_l h
 replace h := guard_r h
 have hsl : (Value.slice a_p0 (d1_l5).length c_p0) = (Value.slice a_p0 (x9).length c_p0) := by first | (rw [hgl]; done) | simp only [hgl]
 try rw [hsl]
 clear hsl
 refine x_ek (c_block ?_)
 obtain ⟨d11, hd11, h11⟩ := bind_some h
 obtain ⟨m11, hd11⟩ := loop_some hd11
 refine c_loop (loop_rule hmx (σ := Nat × Int) (fun s => match s with | (_, blockSize_s6_l11) => [(0, .slice a_p0 (x9).length c_p0), (1, Vi p1), (2, (.func (.func 132) #[] #[Vp b_p300 0])), (6, Vi blockSize_s6_l11)]) (fun s w' => match s with | (m, blockSize_s6_l11) => loopN (slices_stableCmpFunc_int__L11 p1) m blockSize_s6_l11 = some d11 ∧ Ev (fl [blk a_p0, [b_p300]]) w w' ∧ MS w' [blk a_p0, [b_p300], M] ∧ FR w.heap.size [] ∧ NP (fl [blk a_p0, [b_p300]]) w.heap.size [blk a_p0, [b_p300]] ∧ OwnS (eInt .i64) 3 w' (fl [blk a_p0, [b_p300], M]) a_p0 c_p0 x9 ∧ SlR (eInt .i64) w' (fl [blk a_p0, [b_p300], M]) a_p300 c_p300 p300 ∧ w'.heap[b_p300]? = some (.cells #[.slice a_p300 (p300).length c_p300] 22 (0, 0))) (fun s => s.1) (m11, 20) ⟨rfl, rfl, rfl, rfl, trivial⟩ ⟨hd11, hev, hms, hfr, hpr, hs_p0, hs_p300, hb_p300⟩ ?_)
 rintro ⟨m11, blockSize_s6_l11⟩ J wl11 ⟨hn11, hev, hms, hfr, hpr, hs_p0, hs_p300, hb_p300⟩
 rcases m11 with _ | m11
 · exact (loopN_zero hn11).elim
 obtain ⟨t11, h, hn11⟩ := bind_some hn11
 refine c_seq (c_sp (x_u 3 [(28, Vi blockSize_s6_l11), (29, Vi p1), (30, .bool (decide (blockSize_s6_l11 < p1)))] (x_ek (c_nm [(0, .slice a_p0 (x9).length c_p0), (1, Vi p1), (2, (.func (.func 132) #[] #[Vp b_p300 0])), (6, Vi blockSize_s6_l11), (30, .bool (decide (blockSize_s6_l11 < p1)))] (fun J => ?_)))))
 refine c_if (decide (blockSize_s6_l11 < p1)) rfl h (fun h => ?_) (fun h => ?_)
 · refine c_skip (k_then (c_block (c_sp (x_u 4 [(31, Vi blockSize_s6_l11), (32, Vi (IntKind.i64.wrap (2 * blockSize_s6_l11))), (7, Vi 0), (8, Vi (IntKind.i64.wrap (2 * blockSize_s6_l11)))] (x_ek ?_)))))
   refine c_seq (c_block ?_)
   obtain ⟨d14, hd14, h14⟩ := bind_some h
   obtain ⟨m14, hd14⟩ := loop_some hd14
   refine c_loop (loop_rule hmx (σ := Nat × Unit) (fun s => match s with | (_, _) => [(0, .slice a_p0 (x9).length c_p0), (1, Vi p1), (2, (.func (.func 132) #[] #[Vp b_p300 0])), (6, Vi blockSize_s6_l11), (7, Vi 0), (8, Vi (IntKind.i64.wrap (2 * blockSize_s6_l11)))]) (fun s w' => match s with | (m, _) => loopN (slices_stableCmpFunc_int__L14 p1 blockSize_s6_l11) m () = some d14 ∧ Ev (fl [blk a_p0, [b_p300]]) w w' ∧ MS w' [blk a_p0, [b_p300], M] ∧ FR w.heap.size [] ∧ NP (fl [blk a_p0, [b_p300]]) w.heap.size [blk a_p0, [b_p300]] ∧ OwnS (eInt .i64) 3 w' (fl [blk a_p0, [b_p300], M]) a_p0 c_p0 x9 ∧ SlR (eInt .i64) w' (fl [blk a_p0, [b_p300], M]) a_p300 c_p300 p300 ∧ w'.heap[b_p300]? = some (.cells #[.slice a_p300 (p300).length c_p300] 22 (0, 0))) (fun s => s.1) (m14, ()) ⟨rfl, rfl, rfl, rfl, rfl, rfl, trivial⟩ ⟨hd14, hev, hms, hfr, hpr, hs_p0, hs_p300, hb_p300⟩ ?_)
   rintro ⟨m14, _⟩ J wl14 ⟨hn14, hev, hms, hfr, hpr, hs_p0, hs_p300, hb_p300⟩
   rcases m14 with _ | m14
   · exact (loopN_zero hn14).elim
   obtain ⟨t14, h, hn14⟩ := bind_some hn14
   refine c_seq (c_sp (x_u 3 [(33, Vi (IntKind.i64.wrap (2 * blockSize_s6_l11))), (34, Vi p1), (35, .bool (decide ((IntKind.i64.wrap (2 * blockSize_s6_l11)) ≤ p1)))] (x_ek (c_nm [(0, .slice a_p0 (x9).length c_p0), (1, Vi p1), (2, (.func (.func 132) #[] #[Vp b_p300 0])), (6, Vi blockSize_s6_l11), (7, Vi 0), (8, Vi (IntKind.i64.wrap (2 * blockSize_s6_l11))), (35, .bool (decide ((IntKind.i64.wrap (2 * blockSize_s6_l11)) ≤ p1)))] (fun J => ?_)))))
   refine c_if (decide ((IntKind.i64.wrap (2 * blockSize_s6_l11)) ≤ p1)) rfl h (fun h => ?_) (fun h => ?_)
   · refine c_skip (k_then (c_block (c_sp ?_)))
     cases h
   refine c_exit (k_then_exit ?_)
   obtain rfl := some_inj h
   have hy := some_inj hn14
   subst hy
   replace h := h14
   refine k_then_exit (k_block_in (k_then (c_nm [(0, .slice a_p0 (x9).length c_p0), (1, Vi p1), (2, (.func (.func 132) #[] #[Vp b_p300 0])), (6, Vi blockSize_s6_l11), (7, Vi 0)] (fun J => ?_))))
   refine c_seq (c_sp (x_u 4 [(49, Vi 0), (50, Vi blockSize_s6_l11), (51, Vi (IntKind.i64.wrap (0 + blockSize_s6_l11))), (9, Vi (IntKind.i64.wrap (0 + blockSize_s6_l11)))] (x_ek (c_sp (x_u 3 [(52, Vi (IntKind.i64.wrap (0 + blockSize_s6_l11))), (53, Vi p1), (54, .bool (decide ((IntKind.i64.wrap (0 + blockSize_s6_l11)) < p1)))] ?_)))))
   refine x_ek (c_if (decide ((IntKind.i64.wrap (0 + blockSize_s6_l11)) < p1)) rfl h (fun h => ?_) (fun h => ?_))
   · refine c_plain ?_
     cases h
   refine c_skip (k_then (c_plain (x_u 3 [(61, Vi blockSize_s6_l11), (62, Vi (IntKind.i64.wrap (blockSize_s6_l11 * 2))), (6, Vi (IntKind.i64.wrap (blockSize_s6_l11 * 2)))] (x_end rfl (k_block ?_)))))
   obtain rfl := some_inj h
   exact k_then ⟨(m11, IntKind.i64.wrap (blockSize_s6_l11 * 2)), ⟨rfl, rfl, rfl, rfl, trivial⟩, ⟨hn11, hev, hms, hfr, hpr, hs_p0, hs_p300, hb_p300⟩, Nat.lt_succ_self _⟩
 refine c_exit (k_then_exit ?_)
 obtain rfl := some_inj h
 have hy := some_inj hn11
 subst hy
 replace h := h11
 refine k_then_exit (k_block_in (r_normal (r_vals [] trivial ?_)))
 obtain rfl := some_inj h
 have hmr := hms.pick [some 0, some 1, some 2] [blk a_p0, [b_p300], M] rfl
 have hsu := pick_sub (ls := [blk a_p0, [b_p300], M]) [some 0, some 1, some 2] [blk a_p0, [b_p300], M] rfl
 have hfe := hfr.pick [] [] rfl
 exact ⟨rfl, hev, hs_p0.sub hsu, hb_p300, hmr, hfe, (NP.cons (hpr.at 0 rfl) (NP.cons (hpr.at 1 rfl) (NP.nil _ _)))⟩
def slices_SortStableFunc_int_int_ (p0 : List Int) (p200 : List Int) : Option (List Int) :=
((slices_stableCmpFunc_int_ p0 ((p0).length : Int) p200).bind fun x4 =>
(if x4.length = p0.length then
some x4
else none))
theorem slices_SortStableFunc_int_int__w (a_p0 : Option Addr) (c_p0 : Nat) (p0 : List Int) (b_p200 : Nat) (a_p200 : Option Addr) (c_p200 : Nat) (p200 : List Int) (r : (List Int)) (w : World) (M : List Nat) (hms : MS w [blk a_p0, [b_p200], M]) (hs_p0 : OwnS (eInt .i64) 3 w (fl [blk a_p0, [b_p200], M]) a_p0 c_p0 p0) (hs_p200 : SlR (eInt .i64) w (fl [blk a_p0, [b_p200], M]) a_p200 c_p200 p200) (hb_p200 : w.heap[b_p200]? = some (.cells #[.slice a_p200 (p200).length c_p200] 22 (0, 0))) (h : slices_SortStableFunc_int_int_ p0 p200 = some r) : CallVC Tryz.prog 131 [.slice a_p0 (p0).length c_p0, (.func (.func 132) #[] #[Vp b_p200 0])] w fun v w' => v = .tuple #[] ∧ Ev (fl [blk a_p0, [b_p200]]) w w' ∧ OwnS (eInt .i64) 3 w' (fl [blk a_p0, [b_p200], M]) a_p0 c_p0 r ∧ w'.heap[b_p200]? = some (.cells #[.slice a_p200 (p200).length c_p200] 22 (0, 0)) ∧ MS w' [blk a_p0, [b_p200], M] ∧ FR w.heap.size [] ∧ NP (fl [blk a_p0, [b_p200]]) w.heap.size [blk a_p0, [b_p200]] := by
 refine calls_vc hmx Tryz.func131 (by kernel_rfl) rfl (rs := []) rfl (by kernel_rfl) (args := [.slice a_p0 (p0).length c_p0, (.func (.func 132) #[] #[Vp b_p200 0])]) rfl ?_
 have hev : Ev (fl [blk a_p0, [b_p200]]) w w := Ev.refl _ _
 have hfr : FR w.heap.size [] := FR.nil _
 have hpr : NP (fl [blk a_p0, [b_p200]]) w.heap.size [blk a_p0, [b_p200]] := NP.init _ _
 refine c_plain (x_u 2 [(4, .slice a_p0 (p0).length c_p0), (5, .slice a_p0 (p0).length c_p0)] (x_len (vs := [.slice a_p0 (p0).length c_p0]) (Vi ((p0).length : Int)) rfl rfl rfl (reads_len tsl22 _ _ _ _ _) (x_u 1 [(7, (.func (.func 132) #[] #[Vp b_p200 0]))] ?_)))
 obtain ⟨x4, hx, h⟩ := bind_some h
 have hpk : MS w ([blk a_p0, [b_p200]] ++ [M]) := hms.pick [some 0, some 1, some 2] _ rfl
 have hsb0 : ∀ x ∈ fl ([blk a_p0, [b_p200]] ++ [M]), x ∈ fl [blk a_p0, [b_p200], M] := pick_sub [some 0, some 1, some 2] _ rfl
 have hsb : ∀ x ∈ fl ([blk a_p0, [b_p200]] ++ [(fl [M])]), x ∈ fl [blk a_p0, [b_p200], M] := fun x hx => hsb0 x (fl_unfold x hx)
 have hcall := slices_stableCmpFunc_int__w a_p0 c_p0 p0 ((p0).length : Int) b_p200 a_p200 c_p200 p200 _ w (fl [M]) (hpk.fold (P := [blk a_p0, [b_p200]])) (hs_p0.sub hsb) (hs_p200.sub hsb) hb_p200 hx
 refine x_call 146 #[] #[] [.slice a_p0 (p0).length c_p0, Vi ((p0).length : Int), (.func (.func 132) #[] #[Vp b_p200 0])] _ rfl rfl rfl rfl hcall ?_
 rintro v w5 ⟨rfl, he5, hp5_0, hp5_1, hmn5, hfn5, hnp5⟩
 clear hcall hx
 refine inl1 ?_
 have hpk2 : MS w ([blk a_p0, [b_p200]] ++ [M]) := hms.pick [some 0, some 1, some 2] _ rfl
 replace hms : MS w5 [blk a_p0, [b_p200], M] := (MS.call (P := [blk a_p0, [b_p200]]) (R := [M]) (res := []) (par := [blk a_p0, [b_p200]]) hpk2 he5 hmn5 hfn5 hnp5).pick [some 0, some 1, some 2] _ rfl
 have hPf : ∀ b ∈ fl [blk a_p0, [b_p200]], b ∈ (fl [blk a_p0, [b_p200]]) ∨ w.heap.size ≤ b := NP.mem (ls := [blk a_p0, [b_p200]]) (hpr.pick [some 0, some 1] _ rfl)
 have hpr2 : NP (fl [blk a_p0, [b_p200]]) w.heap.size [blk a_p0, [b_p200]] := (NP.cons (fun b hb => (hnp5.at 0 rfl b hb).elim (fun h => hPf b h) (fun h => .inr (Nat.le_trans hev.size h))) (NP.cons (fun b hb => (hnp5.at 1 rfl b hb).elim (fun h => hPf b h) (fun h => .inr (Nat.le_trans hev.size h))) (NP.nil _ _)))
 replace hev := hev.then he5 hPf
 replace hpr := hpr2
 clear hpr2
 replace hb_p200 := hp5_1
 replace hs_p0 := OwnS.plain (M' := fl [blk a_p0, [b_p200], M]) (plain_int _) hp5_0
 clear hpk hsb hsb0 hpk2
 have hgl := guard_l h
 replace h := guard_r h
 have hsl : (Value.slice a_p0 (p0).length c_p0) = (Value.slice a_p0 (x4).length c_p0) := by first | (rw [hgl]; done) | simp only [hgl]
 try rw [hsl]
 clear hsl
 refine x_end rfl (r_normal (r_vals [] trivial ?_))
 obtain rfl := some_inj h
 have hmr := hms.pick [some 0, some 1, some 2] [blk a_p0, [b_p200], M] rfl
 have hsu := pick_sub (ls := [blk a_p0, [b_p200], M]) [some 0, some 1, some 2] [blk a_p0, [b_p200], M] rfl
 have hfe := hfr.pick [] [] rfl
 exact ⟨rfl, hev, hs_p0.sub hsu, hb_p200, hmr, hfe, (NP.cons (hpr.at 0 rfl) (NP.cons (hpr.at 1 rfl) (NP.nil _ _)))⟩
end Go.Proofs.YtlejnkhaphlooaaGreat
