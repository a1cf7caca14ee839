/- Walks, printed by program: each function returns what the partial function of the same name returns. Conditions: those of each theorem. -/
import Derived.Test.YtdbomhhcebmkpaaGT
set_option linter.unusedVariables false
set_option linter.unusedSimpArgs false
set_option maxRecDepth 4000
namespace Go.Proofs.Ytdbomhhcebmkpaa
open Go Go.V Go.Proofs
def assign_order_1 (p0 : Int) (p1 : Int) (p2 : List Int) : Option Int :=
((idx p2 p1).bind fun x3 =>
((idx p2 p0).bind fun x5 =>
some (IntKind.i64.wrap (x3 - x5))))

theorem assign_order_1_w (p0 : Int) (p1 : Int) (b_p2 : Nat) (a_p2 : Option Addr) (c_p2 : Nat) (p2 : List Int) (r : Int) (w : World) (M : List Nat) (hms : MS w [[b_p2], M]) (hs_p2 : SlR (eInt .i64) w (fl [[b_p2], M]) a_p2 c_p2 p2) (hb_p2 : w.heap[b_p2]? = some (.cells #[.slice a_p2 (p2).length c_p2] 22 (0, 0))) (h : assign_order_1 p0 p1 p2 = some r) : CallVC Try.prog 30 [Vi p0, Vi p1, Vp b_p2 0] w fun v w' => v = Vi r ∧ Ev [b_p2] w w' ∧ w'.heap[b_p2]? = some (.cells #[.slice a_p2 (p2).length c_p2] 22 (0, 0)) := by
 refine calls_vc hmx Try.func30 (by kernel_rfl) rfl (rs := [.tmp 5]) rfl (by kernel_rfl) (args := [Vi p0, Vi p1, Vp b_p2 0]) rfl ?_
 have hev : Ev [b_p2] w w := Ev.refl _ _
 have hfr : FR w.heap.size [] := FR.nil _
 refine c_sp ?_
 refine x_pure 1 [(5, Vi 0)] _ _ _ (by kernel_rfl) ?_
 refine x_ek ?_
 refine c_seq ?_
 refine c_drawn [] [(0, false), (1, false), (2, false), (3, false), (4, false), (5, false), (6, false), (7, false), (8, false), (9, false)] _ (by kernel_rfl) rfl ?_
 have hst := Stp.ext (ls := [[b_p2], M]) (Ev.drew w)
 replace hs_p2 := hs_p2.step hst
 replace hb_p2 := (Ev.drew w).box hb_p2 nn
 replace hms := hms.ev (Ev.drew w)
 replace hev := hev.ext (Ev.drew w)
 refine x_load (xv := Vp b_p2 0) (.slice a_p2 (p2).length c_p2) rfl rfl rfl (reads_box tcell22 hb_p2 nn 0 _ rfl) ?_
 refine x_pure 1 [(7, Vi p1)] _ _ _ (by kernel_rfl) ?_
 obtain ⟨x3, hx3, h⟩ := bind_some h
 obtain ⟨ad3, cs3, hr3, hc3, hR⟩ := reads_index (Mo := []) tsl22 hs_p2 hx3
 obtain rfl := hR
 refine x_indexAddr (xv := .slice a_p2 (p2).length c_p2) (yv := Vi p1) (.pointer (some ad3)) rfl rfl rfl rfl hr3 ?_
 refine x_load (xv := .pointer (some ad3)) (Vi x3) rfl rfl rfl (reads_cell0 tcell3 hc3 (fun _ h => by cases h)) ?_
 refine x_load (xv := Vp b_p2 0) (.slice a_p2 (p2).length c_p2) rfl rfl rfl (reads_box tcell22 hb_p2 nn 0 _ rfl) ?_
 refine x_pure 1 [(11, Vi p0)] _ _ _ (by kernel_rfl) ?_
 obtain ⟨x5, hx5, h⟩ := bind_some h
 obtain ⟨ad5, cs5, hr5, hc5, hR⟩ := reads_index (Mo := []) tsl22 hs_p2 hx5
 obtain rfl := hR
 refine x_indexAddr (xv := .slice a_p2 (p2).length c_p2) (yv := Vi p0) (.pointer (some ad5)) rfl rfl rfl rfl hr5 ?_
 refine x_load (xv := .pointer (some ad5)) (Vi x5) rfl rfl rfl (reads_cell0 tcell3 hc5 (fun _ h => by cases h)) ?_
 refine x_pure 2 [(14, Vi (IntKind.i64.wrap (x3 - x5))), (5, Vi (IntKind.i64.wrap (x3 - x5)))] _ _ _ (by kernel_rfl) ?_
 refine x_ek ?_
 refine c_ret ?_
 refine r_ret (r_vals [Vi (IntKind.i64.wrap (x3 - x5))] ⟨rfl, trivial⟩ ?_)
 have hx := some_inj h
 subst hx
 have hmr : MS (w).drew [[b_p2], M] := hms.pick [some 0, some 1] _ rfl
 have hsu : ∀ x ∈ fl [[b_p2], M], x ∈ fl [[b_p2], M] := pick_sub [some 0, some 1] _ rfl
 exact ⟨rfl, hev, hb_p2⟩
def slices_insertionSortCmpFunc_int__L6 (p1 : Int) (p400 : List Int) (s : (List Int) × Int) : Option (Step ((List Int) × Int) (List Int)) :=
match s with
| (d1_l6, j_s9_l6) =>
(if (decide (j_s9_l6 > p1)) = true then
((idx d1_l6 j_s9_l6).bind fun x8 =>
((idx d1_l6 (IntKind.i64.wrap (j_s9_l6 - 1))).bind fun x11 =>
((assign_order_1 x8 x11 p400).bind fun x15 =>
(if (decide (x15 < 0)) = true then
((idx d1_l6 (IntKind.i64.wrap (j_s9_l6 - 1))).bind fun x17 =>
((idx d1_l6 j_s9_l6).bind fun x20 =>
((idx d1_l6 j_s9_l6).bind fun x23 =>
((idx (d1_l6.set (Int.toNat j_s9_l6) x17) (IntKind.i64.wrap (j_s9_l6 - 1))).bind fun x28 =>
some (.next (((d1_l6.set (Int.toNat j_s9_l6) x17).set (Int.toNat (IntKind.i64.wrap (j_s9_l6 - 1))) x20), IntKind.i64.wrap (j_s9_l6 - 1)))))))
else
some (.done d1_l6)))))
else
some (.done d1_l6))

def slices_insertionSortCmpFunc_int__L4 (p1 : Int) (p2 : Int) (p400 : List Int) (s : (List Int) × Int) : Option (Step ((List Int) × Int) (List Int)) :=
match s with
| (d1_l4, i_s8_l4) =>
(if (decide (i_s8_l4 < p2)) = true then
((loop (slices_insertionSortCmpFunc_int__L6 p1 p400) (d1_l4, i_s8_l4)).bind fun d => match d with
| d1_x6 => some (.next (d1_x6, IntKind.i64.wrap (i_s8_l4 + 1))))
else
some (.done d1_l4))

def slices_insertionSortCmpFunc_int_ (p0 : List Int) (p1 : Int) (p2 : Int) (p400 : List Int) : Option (List Int) :=
((loop (slices_insertionSortCmpFunc_int__L4 p1 p2 p400) (p0, IntKind.i64.wrap (p1 + 1))).bind fun d => match d with
| d1_x4 => some d1_x4)

theorem slices_insertionSortCmpFunc_int__w (a_p0 : Option Addr) (c_p0 : Nat) (p0 : List Int) (p1 : Int) (p2 : Int) (b_p400 : Nat) (a_p400 : Option Addr) (c_p400 : Nat) (p400 : List Int) (r : (List Int)) (w : World) (M : List Nat) (hms : MS w [blk a_p0, [b_p400], M]) (hs_p0 : OwnS (eInt .i64) 3 w (fl [blk a_p0, [b_p400], M]) a_p0 c_p0 p0) (hs_p400 : SlR (eInt .i64) w (fl [blk a_p0, [b_p400], M]) a_p400 c_p400 p400) (hb_p400 : w.heap[b_p400]? = some (.cells #[.slice a_p400 (p400).length c_p400] 22 (0, 0))) (h : slices_insertionSortCmpFunc_int_ p0 p1 p2 p400 = some r) : CallVC Try.prog 45 [.slice a_p0 (p0).length c_p0, Vi p1, Vi p2, (.func (.func 30) #[] #[Vp b_p400 0])] w fun v w' => v = .tuple #[] ∧ Ev (fl [blk a_p0, [b_p400]]) w w' ∧ OwnS (eInt .i64) 3 w' (fl [blk a_p0, [b_p400], M]) a_p0 c_p0 r ∧ w'.heap[b_p400]? = some (.cells #[.slice a_p400 (p400).length c_p400] 22 (0, 0)) ∧ MS w' [blk a_p0, [b_p400], M] ∧ FR w.heap.size [] ∧ NP (fl [blk a_p0, [b_p400]]) w.heap.size [blk a_p0, [b_p400]] := by
 refine calls_vc hmx Try.func45 (by kernel_rfl) rfl (rs := []) rfl (by kernel_rfl) (args := [.slice a_p0 (p0).length c_p0, Vi p1, Vi p2, (.func (.func 30) #[] #[Vp b_p400 0])]) rfl ?_
 have hev : Ev (fl [blk a_p0, [b_p400]]) w w := Ev.refl _ _
 have hfr : FR w.heap.size [] := FR.nil _
 have hpr : NP (fl [blk a_p0, [b_p400]]) w.heap.size [blk a_p0, [b_p400]] := NP.init _ _
 refine c_sp ?_
 refine x_pure 3 [(10, Vi p1), (11, Vi (IntKind.i64.wrap (p1 + 1))), (8, Vi (IntKind.i64.wrap (p1 + 1)))] _ _ _ (by kernel_rfl) ?_
 refine x_ek ?_
 refine c_block ?_
 obtain ⟨d4, hd4, h4⟩ := bind_some h
 obtain ⟨m4, hd4⟩ := loop_some hd4
 refine c_loop (loop_rule hmx (σ := Nat × (List Int) × Int) (fun s => match s with | (_, d1_l4, i_s8_l4) => [(0, .slice a_p0 (d1_l4).length c_p0), (1, Vi p1), (2, Vi p2), (3, (.func (.func 30) #[] #[Vp b_p400 0])), (8, Vi i_s8_l4)]) (fun s w' => match s with | (m, d1_l4, i_s8_l4) => loopN (slices_insertionSortCmpFunc_int__L4 p1 p2 p400) m (d1_l4, i_s8_l4) = some d4 ∧ Ev (fl [blk a_p0, [b_p400]]) w w' ∧ MS w' [blk a_p0, [b_p400], M] ∧ FR w.heap.size [] ∧ NP (fl [blk a_p0, [b_p400]]) w.heap.size [blk a_p0, [b_p400]] ∧ OwnS (eInt .i64) 3 w' (fl [blk a_p0, [b_p400], M]) a_p0 c_p0 d1_l4 ∧ SlR (eInt .i64) w' (fl [blk a_p0, [b_p400], M]) a_p400 c_p400 p400 ∧ w'.heap[b_p400]? = some (.cells #[.slice a_p400 (p400).length c_p400] 22 (0, 0))) (fun s => s.1) (m4, p0, IntKind.i64.wrap (p1 + 1)) ⟨rfl, rfl, rfl, rfl, rfl, trivial⟩ ⟨hd4, hev, hms, hfr, hpr, hs_p0, hs_p400, hb_p400⟩ ?_)
 rintro ⟨m4, d1_l4, i_s8_l4⟩ J wl4 ⟨hn4, hev, hms, hfr, hpr, hs_p0, hs_p400, hb_p400⟩
 rcases m4 with _ | m4
 · exact (loopN_zero hn4).elim
 obtain ⟨t4, h, hn4⟩ := bind_some hn4
 refine c_seq ?_
 refine c_sp ?_
 refine x_pure 3 [(12, Vi i_s8_l4), (13, Vi p2), (14, .bool (decide (i_s8_l4 < p2)))] _ _ _ (by kernel_rfl) ?_
 refine x_ek ?_
 refine c_norm [(0, .slice a_p0 (d1_l4).length c_p0), (1, Vi p1), (2, Vi p2), (3, (.func (.func 30) #[] #[Vp b_p400 0])), (8, Vi i_s8_l4), (14, .bool (decide (i_s8_l4 < p2)))] ⟨rfl, rfl, rfl, rfl, rfl, rfl, trivial⟩ (fun J => ?_)
 refine c_cond (decide (i_s8_l4 < p2)) rfl (fun hb => ?_) (fun hb => ?_)
 · replace h := ite_t hb h
   refine c_skip ?_
   refine k_then ?_
   refine c_seq ?_
   refine c_block ?_
   refine c_sp ?_
   refine x_pure 2 [(17, Vi i_s8_l4), (9, Vi i_s8_l4)] _ _ _ (by kernel_rfl) ?_
   refine x_ek ?_
   refine c_block ?_
   obtain ⟨d6, hd6, h6⟩ := bind_some h
   obtain ⟨m6, hd6⟩ := loop_some hd6
   refine c_loop (loop_rule hmx (σ := Nat × (List Int) × Int) (fun s => match s with | (_, d1_l6, j_s9_l6) => [(0, .slice a_p0 (d1_l6).length c_p0), (1, Vi p1), (2, Vi p2), (3, (.func (.func 30) #[] #[Vp b_p400 0])), (8, Vi i_s8_l4), (9, Vi j_s9_l6)]) (fun s w' => match s with | (m, d1_l6, j_s9_l6) => loopN (slices_insertionSortCmpFunc_int__L6 p1 p400) m (d1_l6, j_s9_l6) = some d6 ∧ Ev (fl [blk a_p0, [b_p400]]) w w' ∧ MS w' [blk a_p0, [b_p400], M] ∧ FR w.heap.size [] ∧ NP (fl [blk a_p0, [b_p400]]) w.heap.size [blk a_p0, [b_p400]] ∧ OwnS (eInt .i64) 3 w' (fl [blk a_p0, [b_p400], M]) a_p0 c_p0 d1_l6 ∧ SlR (eInt .i64) w' (fl [blk a_p0, [b_p400], M]) a_p400 c_p400 p400 ∧ w'.heap[b_p400]? = some (.cells #[.slice a_p400 (p400).length c_p400] 22 (0, 0))) (fun s => s.1) (m6, d1_l4, i_s8_l4) ⟨rfl, rfl, rfl, rfl, rfl, rfl, trivial⟩ ⟨hd6, hev, hms, hfr, hpr, hs_p0, hs_p400, hb_p400⟩ ?_)
   rintro ⟨m6, d1_l6, j_s9_l6⟩ J wl6 ⟨hn6, hev, hms, hfr, hpr, hs_p0, hs_p400, hb_p400⟩
   rcases m6 with _ | m6
   · exact (loopN_zero hn6).elim
   obtain ⟨t6, h, hn6⟩ := bind_some hn6
   refine c_seq ?_
   refine c_seq ?_
   refine c_drawn [] [(0, false), (1, false), (2, false), (3, false), (4, false), (5, false), (6, false), (7, false), (8, false), (9, false), (10, false), (11, false), (12, false), (13, false), (14, true), (15, false), (16, false)] _ (by kernel_rfl) rfl ?_
   have hst := Stp.ext (ls := [blk a_p0, [b_p400], M]) (Ev.drew wl6)
   replace hs_p0 := hs_p0.step hst (Ev.drew wl6) nn2
   replace hb_p400 := (Ev.drew wl6).box hb_p400 nn
   replace hs_p400 := hs_p400.step hst
   replace hms := hms.ev (Ev.drew wl6)
   replace hev := hev.ext (Ev.drew wl6)
   refine x_pure 4 [(18, Vi j_s9_l6), (19, Vi p1), (20, .bool (decide (j_s9_l6 > p1))), (21, .bool (decide (j_s9_l6 > p1)))] _ _ _ (by kernel_rfl) ?_
   refine x_split 21 (decide (j_s9_l6 > p1)) rfl (fun hb => ?_) (fun hb => ?_)
   · replace h := ite_t hb h
     refine x_pure 3 [(22, (.func (.func 30) #[] #[Vp b_p400 0])), (23, .slice a_p0 (d1_l6).length c_p0), (24, Vi j_s9_l6)] _ _ _ (by kernel_rfl) ?_
     obtain ⟨x8, hx8, h⟩ := bind_some h
     obtain ⟨g8, cs8, ha8, hr8, hc8, hR⟩ := own_index (Mo := []) tsl22 hs_p0 hx8
     obtain rfl := hR
     refine x_indexAddr (xv := .slice a_p0 (d1_l6).length c_p0) (yv := Vi j_s9_l6) (.pointer (some ⟨g8, (Int.toNat j_s9_l6) * (eInt .i64).n, none⟩)) rfl rfl rfl rfl hr8 ?_
     refine x_load (xv := .pointer (some ⟨g8, (Int.toNat j_s9_l6) * (eInt .i64).n, none⟩)) (Vi x8) rfl rfl rfl (reads_cell0 tcell3 hc8 (fun _ h => by cases h)) ?_
     refine x_pure 3 [(27, .slice a_p0 (d1_l6).length c_p0), (28, Vi j_s9_l6), (29, Vi (IntKind.i64.wrap (j_s9_l6 - 1)))] _ _ _ (by kernel_rfl) ?_
     obtain ⟨x11, hx11, h⟩ := bind_some h
     obtain ⟨g11, cs11, ha11, hr11, hc11, hR⟩ := own_index (Mo := []) tsl22 hs_p0 hx11
     obtain rfl := hR
     refine x_indexAddr (xv := .slice a_p0 (d1_l6).length c_p0) (yv := Vi (IntKind.i64.wrap (j_s9_l6 - 1))) (.pointer (some ⟨g11, (Int.toNat (IntKind.i64.wrap (j_s9_l6 - 1))) * (eInt .i64).n, none⟩)) rfl rfl rfl rfl hr11 ?_
     refine x_load (xv := .pointer (some ⟨g11, (Int.toNat (IntKind.i64.wrap (j_s9_l6 - 1))) * (eInt .i64).n, none⟩)) (Vi x11) rfl rfl rfl (reads_cell0 tcell3 hc11 (fun _ h => by cases h)) ?_
     obtain ⟨x15, hx, h⟩ := bind_some h
     have hpk : MS (wl6).drew ([[b_p400]] ++ [blk a_p0, M]) := hms.pick [some 1, some 0, some 2] _ rfl
     have hsb0 : ∀ x ∈ fl ([[b_p400]] ++ [blk a_p0, M]), x ∈ fl [blk a_p0, [b_p400], M] := pick_sub [some 1, some 0, some 2] _ rfl
     have hsb : ∀ x ∈ fl ([[b_p400]] ++ [(fl [blk a_p0, M])]), x ∈ fl [blk a_p0, [b_p400], M] := fun x hx => hsb0 x (fl_unfold x hx)
     have hcall := assign_order_1_w x8 x11 b_p400 a_p400 c_p400 p400 _ (wl6).drew (fl [blk a_p0, M]) (hpk.fold (P := [[b_p400]])) (hs_p400.sub hsb) hb_p400 hx
     refine x_call 30 #[] #[Vp b_p400 0] [Vi x8, Vi x11, Vp b_p400 0] _ rfl rfl rfl rfl hcall ?_
     rintro v w16 ⟨rfl, he16, hp16_0⟩
     clear hcall hx
     refine inl1 ?_
     have hpk2 : MS (wl6).drew ([[b_p400]] ++ [blk a_p0, M]) := hms.pick [some 1, some 0, some 2] _ rfl
     have hsb2 : ∀ x ∈ fl ([[b_p400]] ++ [blk a_p0, M]), x ∈ fl [blk a_p0, [b_p400], M] := pick_sub [some 1, some 0, some 2] _ rfl
     have hst0 := Stp.call (LS := [blk a_p0, [b_p400], M]) (res := []) (par := [[b_p400]]) (R := [blk a_p0, M]) he16 (fun b hb => hsb2 b (fl_left' (P := [[b_p400]]) b hb)) (FR.nil _) (NP.init _ _) (fun x hx => hsb2 x (fl_right' (P := [[b_p400]]) x hx))
     have hsn : ∀ x ∈ fl [blk a_p0, [b_p400], M], x ∈ fl ([] ++ ([[b_p400]] ++ [blk a_p0, M])) := pick_sub [some 1, some 0, some 2] _ rfl
     have hst := hst0.res hsn
     replace hs_p0 := hs_p0.step hst he16 (MS.outs (P := [[b_p400]]) hpk2 0 rfl)
     replace hs_p400 := hs_p400.step hst
     replace hms := hms.ev he16
     have hPf : ∀ b ∈ fl [[b_p400]], b ∈ (fl [blk a_p0, [b_p400]]) ∨ w.heap.size ≤ b := NP.mem (ls := [[b_p400]]) (hpr.pick [some 1] _ rfl)
     replace hev := hev.then he16 hPf
     replace hb_p400 := hp16_0
     clear hpk hsb hsb0 hpk2 hsb2 hst0 hsn hst
     refine x_pure 2 [(33, .bool (decide (x15 < 0))), (34, .bool (decide (x15 < 0)))] _ _ _ (by kernel_rfl) ?_
     refine x_ek ?_
     refine c_norm [(0, .slice a_p0 (d1_l6).length c_p0), (1, Vi p1), (2, Vi p2), (3, (.func (.func 30) #[] #[Vp b_p400 0])), (8, Vi i_s8_l4), (9, Vi j_s9_l6), (34, .bool (decide (x15 < 0)))] ⟨rfl, rfl, rfl, rfl, rfl, rfl, rfl, trivial⟩ (fun J => ?_)
     refine c_cond (decide (x15 < 0)) rfl (fun hb => ?_) (fun hb => ?_)
     · replace h := ite_t hb h
       refine c_skip ?_
       refine k_then ?_
       refine c_seq ?_
       refine c_block ?_
       refine c_drawn (blk a_p0) [(0, true), (1, true), (2, false), (3, false), (4, false), (5, true), (6, true), (7, true), (8, true), (9, true), (10, true), (11, true), (12, true), (13, true), (14, true), (15, false), (16, true), (17, true)] _ (by kernel_rfl) rfl ?_
       have hst := Stp.ext (ls := [blk a_p0, [b_p400], M]) (Ev.drew w16)
       replace hs_p0 := hs_p0.step hst (Ev.drew w16) nn2
       replace hb_p400 := (Ev.drew w16).box hb_p400 nn
       replace hs_p400 := hs_p400.step hst
       replace hms := hms.ev (Ev.drew w16)
       replace hev := hev.ext (Ev.drew w16)
       refine x_pure 8 [(37, .slice a_p0 (d1_l6).length c_p0), (38, Vi j_s9_l6), (39, .slice a_p0 (d1_l6).length c_p0), (40, Vi j_s9_l6), (41, Vi (IntKind.i64.wrap (j_s9_l6 - 1))), (42, .slice a_p0 (d1_l6).length c_p0), (43, Vi j_s9_l6), (44, Vi (IntKind.i64.wrap (j_s9_l6 - 1)))] _ _ _ (by kernel_rfl) ?_
       obtain ⟨x17, hx17, h⟩ := bind_some h
       obtain ⟨g17, cs17, ha17, hr17, hc17, hR⟩ := own_index (Mo := []) tsl22 hs_p0 hx17
       obtain rfl := hR
       refine x_indexAddr (xv := .slice a_p0 (d1_l6).length c_p0) (yv := Vi (IntKind.i64.wrap (j_s9_l6 - 1))) (.pointer (some ⟨g17, (Int.toNat (IntKind.i64.wrap (j_s9_l6 - 1))) * (eInt .i64).n, none⟩)) rfl rfl rfl rfl hr17 ?_
       refine x_load (xv := .pointer (some ⟨g17, (Int.toNat (IntKind.i64.wrap (j_s9_l6 - 1))) * (eInt .i64).n, none⟩)) (Vi x17) rfl rfl rfl (reads_cell0 tcell3 hc17 (fun _ h => by cases h)) ?_
       refine x_pure 2 [(47, .slice a_p0 (d1_l6).length c_p0), (48, Vi j_s9_l6)] _ _ _ (by kernel_rfl) ?_
       obtain ⟨x20, hx20, h⟩ := bind_some h
       obtain ⟨g20, cs20, ha20, hr20, hc20, hR⟩ := own_index (Mo := []) tsl22 hs_p0 hx20
       obtain rfl := hR
       refine x_indexAddr (xv := .slice a_p0 (d1_l6).length c_p0) (yv := Vi j_s9_l6) (.pointer (some ⟨g20, (Int.toNat j_s9_l6) * (eInt .i64).n, none⟩)) rfl rfl rfl rfl hr20 ?_
       refine x_load (xv := .pointer (some ⟨g20, (Int.toNat j_s9_l6) * (eInt .i64).n, none⟩)) (Vi x20) rfl rfl rfl (reads_cell0 tcell3 hc20 (fun _ h => by cases h)) ?_
       obtain ⟨x23, hx23, h⟩ := bind_some h
       obtain ⟨g23, cs23, ha23, hr23, hc23, hR⟩ := own_index (Mo := []) tsl22 hs_p0 hx23
       obtain rfl := hR
       refine x_indexAddr (xv := .slice a_p0 (d1_l6).length c_p0) (yv := Vi j_s9_l6) (.pointer (some ⟨g23, (Int.toNat j_s9_l6) * (eInt .i64).n, none⟩)) rfl rfl rfl rfl hr23 ?_
       have hxs25_18 := hx17
       have hxs25_21 := hx20
       obtain ⟨w27, hr27, he27, ho27⟩ := own_storeE ha23 (y := x17) 0 (Vi x17) tcell3 hs_p0 (mem_flat 0 rfl) hx23 rfl rfl (fun _ _ _ hR => set_int hR)
       refine x_store w27 (xv := .pointer (some ⟨g23, (Int.toNat j_s9_l6) * (eInt .i64).n, none⟩)) (yv := Vi x17) rfl rfl rfl rfl hr27 ?_
       refine ⟨.inr he27, ?_⟩
       have hst := Stp.ev' (ls := [blk a_p0, [b_p400], M]) he27 (mem_flat 0 rfl)
       replace hb_p400 := he27.box hb_p400 (hms.apart 1 0 rfl rfl rfl _ mem1)
       replace hs_p400 := hs_p400.step hst
       replace hms := hms.ev he27
       replace hev := hev.then he27 (hpr.at 0 rfl)
       replace hs_p0 := ho27
       have hsl : (Value.slice a_p0 (d1_l6).length c_p0) = (Value.slice a_p0 ((d1_l6.set (Int.toNat j_s9_l6) x17)).length c_p0) := by first | (rw [List.length_set]; done) | simp only [List.length_set]
       try rw [hsl]
       clear hsl
       obtain ⟨_, hxs25_18⟩ : ∃ y, idx (d1_l6.set (Int.toNat j_s9_l6) x17) (IntKind.i64.wrap (j_s9_l6 - 1)) = some y := idx_set_any hxs25_18 _ _
       obtain ⟨_, hxs25_21⟩ : ∃ y, idx (d1_l6.set (Int.toNat j_s9_l6) x17) j_s9_l6 = some y := idx_set_any hxs25_21 _ _
       obtain ⟨x28, hx28, h⟩ := bind_some h
       obtain ⟨g28, cs28, ha28, hr28, hc28, hR⟩ := own_index (Mo := []) tsl22 hs_p0 hx28
       obtain rfl := hR
       refine x_indexAddr (xv := .slice a_p0 ((d1_l6.set (Int.toNat j_s9_l6) x17)).length c_p0) (yv := Vi (IntKind.i64.wrap (j_s9_l6 - 1))) (.pointer (some ⟨g28, (Int.toNat (IntKind.i64.wrap (j_s9_l6 - 1))) * (eInt .i64).n, none⟩)) rfl rfl rfl rfl hr28 ?_
       have hxs30_18 := hxs25_18
       have hxs30_21 := hxs25_21
       obtain ⟨w32, hr32, he32, ho32⟩ := own_storeE ha28 (y := x20) 0 (Vi x20) tcell3 hs_p0 (mem_flat 0 rfl) hx28 rfl rfl (fun _ _ _ hR => set_int hR)
       refine x_store w32 (xv := .pointer (some ⟨g28, (Int.toNat (IntKind.i64.wrap (j_s9_l6 - 1))) * (eInt .i64).n, none⟩)) (yv := Vi x20) rfl rfl rfl rfl hr32 ?_
       refine inl1 ?_
       have hst := Stp.ev' (ls := [blk a_p0, [b_p400], M]) he32 (mem_flat 0 rfl)
       replace hb_p400 := he32.box hb_p400 (hms.apart 1 0 rfl rfl rfl _ mem1)
       replace hs_p400 := hs_p400.step hst
       replace hms := hms.ev he32
       replace hev := hev.then he32 (hpr.at 0 rfl)
       replace hs_p0 := ho32
       have hsl : (Value.slice a_p0 ((d1_l6.set (Int.toNat j_s9_l6) x17)).length c_p0) = (Value.slice a_p0 (((d1_l6.set (Int.toNat j_s9_l6) x17).set (Int.toNat (IntKind.i64.wrap (j_s9_l6 - 1))) x20)).length c_p0) := by first | (rw [List.length_set]; done) | simp only [List.length_set]
       try rw [hsl]
       clear hsl
       obtain ⟨_, hxs30_18⟩ : ∃ y, idx ((d1_l6.set (Int.toNat j_s9_l6) x17).set (Int.toNat (IntKind.i64.wrap (j_s9_l6 - 1))) x20) (IntKind.i64.wrap (j_s9_l6 - 1)) = some y := idx_set_any hxs30_18 _ _
       obtain ⟨_, hxs30_21⟩ : ∃ y, idx ((d1_l6.set (Int.toNat j_s9_l6) x17).set (Int.toNat (IntKind.i64.wrap (j_s9_l6 - 1))) x20) j_s9_l6 = some y := idx_set_any hxs30_21 _ _
       refine x_end rfl ?_
       refine k_block ?_
       refine k_then ?_
       refine c_norm [(0, .slice a_p0 (((d1_l6.set (Int.toNat j_s9_l6) x17).set (Int.toNat (IntKind.i64.wrap (j_s9_l6 - 1))) x20)).length c_p0), (1, Vi p1), (2, Vi p2), (3, (.func (.func 30) #[] #[Vp b_p400 0])), (8, Vi i_s8_l4), (9, Vi j_s9_l6)] ⟨rfl, rfl, rfl, rfl, rfl, rfl, trivial⟩ (fun J => ?_)
       refine c_plain ?_
       refine x_pure 3 [(35, Vi j_s9_l6), (36, Vi (IntKind.i64.wrap (j_s9_l6 - 1))), (9, Vi (IntKind.i64.wrap (j_s9_l6 - 1)))] _ _ _ (by kernel_rfl) ?_
       refine x_end rfl ?_
       have hx := some_inj h
       subst hx
       exact k_then ⟨(m6, ((d1_l6.set (Int.toNat j_s9_l6) x17).set (Int.toNat (IntKind.i64.wrap (j_s9_l6 - 1))) x20), IntKind.i64.wrap (j_s9_l6 - 1)), ⟨rfl, rfl, rfl, rfl, rfl, rfl, trivial⟩, ⟨hn6, hev, hms, hfr, hpr, hs_p0, hs_p400, hb_p400⟩, Nat.lt_succ_self _⟩
     replace h := ite_f hb h
     refine c_exit ?_
     refine k_then_exit ?_
     have hx := some_inj h
     subst hx
     have hy := some_inj hn6
     subst hy
     replace h := h6
     refine k_then_exit ?_
     refine k_block_in ?_
     refine k_block ?_
     refine k_then ?_
     refine c_norm [(0, .slice a_p0 (d1_l6).length c_p0), (1, Vi p1), (2, Vi p2), (3, (.func (.func 30) #[] #[Vp b_p400 0])), (8, Vi i_s8_l4)] ⟨rfl, rfl, rfl, rfl, rfl, trivial⟩ (fun J => ?_)
     refine c_plain ?_
     refine x_pure 3 [(15, Vi i_s8_l4), (16, Vi (IntKind.i64.wrap (i_s8_l4 + 1))), (8, Vi (IntKind.i64.wrap (i_s8_l4 + 1)))] _ _ _ (by kernel_rfl) ?_
     refine x_end rfl ?_
     have hx := some_inj h
     subst hx
     exact k_then ⟨(m4, d1_l6, IntKind.i64.wrap (i_s8_l4 + 1)), ⟨rfl, rfl, rfl, rfl, rfl, trivial⟩, ⟨hn4, hev, hms, hfr, hpr, hs_p0, hs_p400, hb_p400⟩, Nat.lt_succ_self _⟩
   replace h := ite_f hb h
   refine x_pure 13 [(22, undef), (23, undef), (24, undef), (25, undef), (26, undef), (27, undef), (28, undef), (29, undef), (30, undef), (31, undef), (32, undef), (33, undef), (34, .bool false)] _ _ _ (by kernel_rfl) ?_
   refine x_ek ?_
   refine c_norm [(0, .slice a_p0 (d1_l6).length c_p0), (1, Vi p1), (2, Vi p2), (3, (.func (.func 30) #[] #[Vp b_p400 0])), (8, Vi i_s8_l4), (9, Vi j_s9_l6), (34, .bool false)] ⟨rfl, rfl, rfl, rfl, rfl, rfl, rfl, trivial⟩ (fun J => ?_)
   refine c_false rfl ?_
   refine c_exit ?_
   refine k_then_exit ?_
   have hx := some_inj h
   subst hx
   have hy := some_inj hn6
   subst hy
   replace h := h6
   refine k_then_exit ?_
   refine k_block_in ?_
   refine k_block ?_
   refine k_then ?_
   refine c_norm [(0, .slice a_p0 (d1_l6).length c_p0), (1, Vi p1), (2, Vi p2), (3, (.func (.func 30) #[] #[Vp b_p400 0])), (8, Vi i_s8_l4)] ⟨rfl, rfl, rfl, rfl, rfl, trivial⟩ (fun J => ?_)
   refine c_plain ?_
   refine x_pure 3 [(15, Vi i_s8_l4), (16, Vi (IntKind.i64.wrap (i_s8_l4 + 1))), (8, Vi (IntKind.i64.wrap (i_s8_l4 + 1)))] _ _ _ (by kernel_rfl) ?_
   refine x_end rfl ?_
   have hx := some_inj h
   subst hx
   exact k_then ⟨(m4, d1_l6, IntKind.i64.wrap (i_s8_l4 + 1)), ⟨rfl, rfl, rfl, rfl, rfl, trivial⟩, ⟨hn4, hev, hms, hfr, hpr, hs_p0, hs_p400, hb_p400⟩, Nat.lt_succ_self _⟩
 replace h := ite_f hb h
 refine c_exit ?_
 refine k_then_exit ?_
 have hx := some_inj h
 subst hx
 have hy := some_inj hn4
 subst hy
 replace h := h4
 refine k_then_exit ?_
 refine k_block_in ?_
 refine r_normal (r_vals [] trivial ?_)
 have hx := some_inj h
 subst hx
 have hmr : MS wl4 [blk a_p0, [b_p400], M] := hms.pick [some 0, some 1, some 2] _ rfl
 have hsu : ∀ x ∈ fl [blk a_p0, [b_p400], M], x ∈ fl [blk a_p0, [b_p400], M] := pick_sub [some 0, some 1, some 2] _ rfl
 have hfe : FR w.heap.size [] := hfr.pick [] _ rfl
 exact ⟨rfl, hev, hs_p0.sub hsu, hb_p400, hmr, hfe, (NP.cons (hpr.at 0 rfl) (NP.cons (hpr.at 1 rfl) (NP.nil _ _)))⟩
def slices_swapRangeCmpFunc_int__L4 (p1 : Int) (p2 : Int) (p3 : Int) (s : (List Int) × Int) : Option (Step ((List Int) × Int) (List Int)) :=
match s with
| (d1_l4, i_s10_l4) =>
(if (decide (i_s10_l4 < p3)) = true then
((idx d1_l4 (IntKind.i64.wrap (p2 + i_s10_l4))).bind fun x6 =>
((idx d1_l4 (IntKind.i64.wrap (p1 + i_s10_l4))).bind fun x9 =>
((idx d1_l4 (IntKind.i64.wrap (p1 + i_s10_l4))).bind fun x12 =>
((idx (d1_l4.set (Int.toNat (IntKind.i64.wrap (p1 + i_s10_l4))) x6) (IntKind.i64.wrap (p2 + i_s10_l4))).bind fun x17 =>
some (.next (((d1_l4.set (Int.toNat (IntKind.i64.wrap (p1 + i_s10_l4))) x6).set (Int.toNat (IntKind.i64.wrap (p2 + i_s10_l4))) x9), IntKind.i64.wrap (i_s10_l4 + 1)))))))
else
some (.done d1_l4))

def slices_swapRangeCmpFunc_int_ (p0 : List Int) (p1 : Int) (p2 : Int) (p3 : Int) (p500 : List Int) : Option (List Int) :=
((loop (slices_swapRangeCmpFunc_int__L4 p1 p2 p3) (p0, 0)).bind fun d => match d with
| d1_x4 => some d1_x4)

theorem slices_swapRangeCmpFunc_int__w (a_p0 : Option Addr) (c_p0 : Nat) (p0 : List Int) (p1 : Int) (p2 : Int) (p3 : Int) (b_p500 : Nat) (a_p500 : Option Addr) (c_p500 : Nat) (p500 : List Int) (r : (List Int)) (w : World) (M : List Nat) (hms : MS w [blk a_p0, [b_p500], M]) (hs_p0 : OwnS (eInt .i64) 3 w (fl [blk a_p0, [b_p500], M]) a_p0 c_p0 p0) (hs_p500 : SlR (eInt .i64) w (fl [blk a_p0, [b_p500], M]) a_p500 c_p500 p500) (hb_p500 : w.heap[b_p500]? = some (.cells #[.slice a_p500 (p500).length c_p500] 22 (0, 0))) (h : slices_swapRangeCmpFunc_int_ p0 p1 p2 p3 p500 = some r) : CallVC Try.prog 55 [.slice a_p0 (p0).length c_p0, Vi p1, Vi p2, Vi p3, (.func (.func 30) #[] #[Vp b_p500 0])] w fun v w' => v = .tuple #[] ∧ Ev (fl [blk a_p0, [b_p500]]) w w' ∧ OwnS (eInt .i64) 3 w' (fl [blk a_p0, [b_p500], M]) a_p0 c_p0 r ∧ w'.heap[b_p500]? = some (.cells #[.slice a_p500 (p500).length c_p500] 22 (0, 0)) ∧ MS w' [blk a_p0, [b_p500], M] ∧ FR w.heap.size [] ∧ NP (fl [blk a_p0, [b_p500]]) w.heap.size [blk a_p0, [b_p500]] := by
 refine calls_vc hmx Try.func55 (by kernel_rfl) rfl (rs := []) rfl (by kernel_rfl) (args := [.slice a_p0 (p0).length c_p0, Vi p1, Vi p2, Vi p3, (.func (.func 30) #[] #[Vp b_p500 0])]) rfl ?_
 have hev : Ev (fl [blk a_p0, [b_p500]]) w w := Ev.refl _ _
 have hfr : FR w.heap.size [] := FR.nil _
 have hpr : NP (fl [blk a_p0, [b_p500]]) w.heap.size [blk a_p0, [b_p500]] := NP.init _ _
 refine c_sp ?_
 refine x_pure 1 [(10, Vi 0)] _ _ _ (by kernel_rfl) ?_
 refine x_ek ?_
 refine c_block ?_
 obtain ⟨d4, hd4, h4⟩ := bind_some h
 obtain ⟨m4, hd4⟩ := loop_some hd4
 refine c_loop (loop_rule hmx (σ := Nat × (List Int) × Int) (fun s => match s with | (_, d1_l4, i_s10_l4) => [(0, .slice a_p0 (d1_l4).length c_p0), (1, Vi p1), (2, Vi p2), (3, Vi p3), (10, Vi i_s10_l4)]) (fun s w' => match s with | (m, d1_l4, i_s10_l4) => loopN (slices_swapRangeCmpFunc_int__L4 p1 p2 p3) m (d1_l4, i_s10_l4) = some d4 ∧ Ev (fl [blk a_p0, [b_p500]]) w w' ∧ MS w' [blk a_p0, [b_p500], M] ∧ FR w.heap.size [] ∧ NP (fl [blk a_p0, [b_p500]]) w.heap.size [blk a_p0, [b_p500]] ∧ OwnS (eInt .i64) 3 w' (fl [blk a_p0, [b_p500], M]) a_p0 c_p0 d1_l4 ∧ SlR (eInt .i64) w' (fl [blk a_p0, [b_p500], M]) a_p500 c_p500 p500 ∧ w'.heap[b_p500]? = some (.cells #[.slice a_p500 (p500).length c_p500] 22 (0, 0))) (fun s => s.1) (m4, p0, 0) ⟨rfl, rfl, rfl, rfl, rfl, trivial⟩ ⟨hd4, hev, hms, hfr, hpr, hs_p0, hs_p500, hb_p500⟩ ?_)
 rintro ⟨m4, d1_l4, i_s10_l4⟩ J wl4 ⟨hn4, hev, hms, hfr, hpr, hs_p0, hs_p500, hb_p500⟩
 rcases m4 with _ | m4
 · exact (loopN_zero hn4).elim
 obtain ⟨t4, h, hn4⟩ := bind_some hn4
 refine c_seq ?_
 refine c_sp ?_
 refine x_pure 3 [(11, Vi i_s10_l4), (12, Vi p3), (13, .bool (decide (i_s10_l4 < p3)))] _ _ _ (by kernel_rfl) ?_
 refine x_ek ?_
 refine c_norm [(0, .slice a_p0 (d1_l4).length c_p0), (1, Vi p1), (2, Vi p2), (3, Vi p3), (10, Vi i_s10_l4), (13, .bool (decide (i_s10_l4 < p3)))] ⟨rfl, rfl, rfl, rfl, rfl, rfl, trivial⟩ (fun J => ?_)
 refine c_cond (decide (i_s10_l4 < p3)) rfl (fun hb => ?_) (fun hb => ?_)
 · replace h := ite_t hb h
   refine c_skip ?_
   refine k_then ?_
   refine c_seq ?_
   refine c_block ?_
   refine c_drawn (blk a_p0) [(0, true), (1, true), (2, true), (3, true), (4, false), (5, false), (6, false), (7, false), (8, true), (9, true), (10, true), (11, true), (12, true), (13, true), (14, true), (15, true), (16, true), (17, true), (18, true), (19, true), (20, true), (21, false), (22, true), (23, true)] _ (by kernel_rfl) rfl ?_
   have hst := Stp.ext (ls := [blk a_p0, [b_p500], M]) (Ev.drew wl4)
   replace hs_p0 := hs_p0.step hst (Ev.drew wl4) nn2
   replace hb_p500 := (Ev.drew wl4).box hb_p500 nn
   replace hs_p500 := hs_p500.step hst
   replace hms := hms.ev (Ev.drew wl4)
   replace hev := hev.ext (Ev.drew wl4)
   refine x_pure 12 [(16, .slice a_p0 (d1_l4).length c_p0), (17, Vi p1), (18, Vi i_s10_l4), (19, Vi (IntKind.i64.wrap (p1 + i_s10_l4))), (20, .slice a_p0 (d1_l4).length c_p0), (21, Vi p2), (22, Vi i_s10_l4), (23, Vi (IntKind.i64.wrap (p2 + i_s10_l4))), (24, .slice a_p0 (d1_l4).length c_p0), (25, Vi p2), (26, Vi i_s10_l4), (27, Vi (IntKind.i64.wrap (p2 + i_s10_l4)))] _ _ _ (by kernel_rfl) ?_
   obtain ⟨x6, hx6, h⟩ := bind_some h
   obtain ⟨g6, cs6, ha6, hr6, hc6, hR⟩ := own_index (Mo := []) tsl22 hs_p0 hx6
   obtain rfl := hR
   refine x_indexAddr (xv := .slice a_p0 (d1_l4).length c_p0) (yv := Vi (IntKind.i64.wrap (p2 + i_s10_l4))) (.pointer (some ⟨g6, (Int.toNat (IntKind.i64.wrap (p2 + i_s10_l4))) * (eInt .i64).n, none⟩)) rfl rfl rfl rfl hr6 ?_
   refine x_load (xv := .pointer (some ⟨g6, (Int.toNat (IntKind.i64.wrap (p2 + i_s10_l4))) * (eInt .i64).n, none⟩)) (Vi x6) rfl rfl rfl (reads_cell0 tcell3 hc6 (fun _ h => by cases h)) ?_
   refine x_pure 4 [(30, .slice a_p0 (d1_l4).length c_p0), (31, Vi p1), (32, Vi i_s10_l4), (33, Vi (IntKind.i64.wrap (p1 + i_s10_l4)))] _ _ _ (by kernel_rfl) ?_
   obtain ⟨x9, hx9, h⟩ := bind_some h
   obtain ⟨g9, cs9, ha9, hr9, hc9, hR⟩ := own_index (Mo := []) tsl22 hs_p0 hx9
   obtain rfl := hR
   refine x_indexAddr (xv := .slice a_p0 (d1_l4).length c_p0) (yv := Vi (IntKind.i64.wrap (p1 + i_s10_l4))) (.pointer (some ⟨g9, (Int.toNat (IntKind.i64.wrap (p1 + i_s10_l4))) * (eInt .i64).n, none⟩)) rfl rfl rfl rfl hr9 ?_
   refine x_load (xv := .pointer (some ⟨g9, (Int.toNat (IntKind.i64.wrap (p1 + i_s10_l4))) * (eInt .i64).n, none⟩)) (Vi x9) rfl rfl rfl (reads_cell0 tcell3 hc9 (fun _ h => by cases h)) ?_
   obtain ⟨x12, hx12, h⟩ := bind_some h
   obtain ⟨g12, cs12, ha12, hr12, hc12, hR⟩ := own_index (Mo := []) tsl22 hs_p0 hx12
   obtain rfl := hR
   refine x_indexAddr (xv := .slice a_p0 (d1_l4).length c_p0) (yv := Vi (IntKind.i64.wrap (p1 + i_s10_l4))) (.pointer (some ⟨g12, (Int.toNat (IntKind.i64.wrap (p1 + i_s10_l4))) * (eInt .i64).n, none⟩)) rfl rfl rfl rfl hr12 ?_
   have hxs14_7 := hx6
   have hxs14_10 := hx9
   obtain ⟨w16, hr16, he16, ho16⟩ := own_storeE ha12 (y := x6) 0 (Vi x6) tcell3 hs_p0 (mem_flat 0 rfl) hx12 rfl rfl (fun _ _ _ hR => set_int hR)
   refine x_store w16 (xv := .pointer (some ⟨g12, (Int.toNat (IntKind.i64.wrap (p1 + i_s10_l4))) * (eInt .i64).n, none⟩)) (yv := Vi x6) rfl rfl rfl rfl hr16 ?_
   refine ⟨.inr he16, ?_⟩
   have hst := Stp.ev' (ls := [blk a_p0, [b_p500], M]) he16 (mem_flat 0 rfl)
   replace hb_p500 := he16.box hb_p500 (hms.apart 1 0 rfl rfl rfl _ mem1)
   replace hs_p500 := hs_p500.step hst
   replace hms := hms.ev he16
   replace hev := hev.then he16 (hpr.at 0 rfl)
   replace hs_p0 := ho16
   have hsl : (Value.slice a_p0 (d1_l4).length c_p0) = (Value.slice a_p0 ((d1_l4.set (Int.toNat (IntKind.i64.wrap (p1 + i_s10_l4))) x6)).length c_p0) := by first | (rw [List.length_set]; done) | simp only [List.length_set]
   try rw [hsl]
   clear hsl
   obtain ⟨_, hxs14_7⟩ : ∃ y, idx (d1_l4.set (Int.toNat (IntKind.i64.wrap (p1 + i_s10_l4))) x6) (IntKind.i64.wrap (p2 + i_s10_l4)) = some y := idx_set_any hxs14_7 _ _
   obtain ⟨_, hxs14_10⟩ : ∃ y, idx (d1_l4.set (Int.toNat (IntKind.i64.wrap (p1 + i_s10_l4))) x6) (IntKind.i64.wrap (p1 + i_s10_l4)) = some y := idx_set_any hxs14_10 _ _
   obtain ⟨x17, hx17, h⟩ := bind_some h
   obtain ⟨g17, cs17, ha17, hr17, hc17, hR⟩ := own_index (Mo := []) tsl22 hs_p0 hx17
   obtain rfl := hR
   refine x_indexAddr (xv := .slice a_p0 ((d1_l4.set (Int.toNat (IntKind.i64.wrap (p1 + i_s10_l4))) x6)).length c_p0) (yv := Vi (IntKind.i64.wrap (p2 + i_s10_l4))) (.pointer (some ⟨g17, (Int.toNat (IntKind.i64.wrap (p2 + i_s10_l4))) * (eInt .i64).n, none⟩)) rfl rfl rfl rfl hr17 ?_
   have hxs19_7 := hxs14_7
   have hxs19_10 := hxs14_10
   obtain ⟨w21, hr21, he21, ho21⟩ := own_storeE ha17 (y := x9) 0 (Vi x9) tcell3 hs_p0 (mem_flat 0 rfl) hx17 rfl rfl (fun _ _ _ hR => set_int hR)
   refine x_store w21 (xv := .pointer (some ⟨g17, (Int.toNat (IntKind.i64.wrap (p2 + i_s10_l4))) * (eInt .i64).n, none⟩)) (yv := Vi x9) rfl rfl rfl rfl hr21 ?_
   refine inl1 ?_
   have hst := Stp.ev' (ls := [blk a_p0, [b_p500], M]) he21 (mem_flat 0 rfl)
   replace hb_p500 := he21.box hb_p500 (hms.apart 1 0 rfl rfl rfl _ mem1)
   replace hs_p500 := hs_p500.step hst
   replace hms := hms.ev he21
   replace hev := hev.then he21 (hpr.at 0 rfl)
   replace hs_p0 := ho21
   have hsl : (Value.slice a_p0 ((d1_l4.set (Int.toNat (IntKind.i64.wrap (p1 + i_s10_l4))) x6)).length c_p0) = (Value.slice a_p0 (((d1_l4.set (Int.toNat (IntKind.i64.wrap (p1 + i_s10_l4))) x6).set (Int.toNat (IntKind.i64.wrap (p2 + i_s10_l4))) x9)).length c_p0) := by first | (rw [List.length_set]; done) | simp only [List.length_set]
   try rw [hsl]
   clear hsl
   obtain ⟨_, hxs19_7⟩ : ∃ y, idx ((d1_l4.set (Int.toNat (IntKind.i64.wrap (p1 + i_s10_l4))) x6).set (Int.toNat (IntKind.i64.wrap (p2 + i_s10_l4))) x9) (IntKind.i64.wrap (p2 + i_s10_l4)) = some y := idx_set_any hxs19_7 _ _
   obtain ⟨_, hxs19_10⟩ : ∃ y, idx ((d1_l4.set (Int.toNat (IntKind.i64.wrap (p1 + i_s10_l4))) x6).set (Int.toNat (IntKind.i64.wrap (p2 + i_s10_l4))) x9) (IntKind.i64.wrap (p1 + i_s10_l4)) = some y := idx_set_any hxs19_10 _ _
   refine x_end rfl ?_
   refine k_block ?_
   refine k_then ?_
   refine c_norm [(0, .slice a_p0 (((d1_l4.set (Int.toNat (IntKind.i64.wrap (p1 + i_s10_l4))) x6).set (Int.toNat (IntKind.i64.wrap (p2 + i_s10_l4))) x9)).length c_p0), (1, Vi p1), (2, Vi p2), (3, Vi p3), (10, Vi i_s10_l4)] ⟨rfl, rfl, rfl, rfl, rfl, trivial⟩ (fun J => ?_)
   refine c_plain ?_
   refine x_pure 3 [(14, Vi i_s10_l4), (15, Vi (IntKind.i64.wrap (i_s10_l4 + 1))), (10, Vi (IntKind.i64.wrap (i_s10_l4 + 1)))] _ _ _ (by kernel_rfl) ?_
   refine x_end rfl ?_
   have hx := some_inj h
   subst hx
   exact k_then ⟨(m4, ((d1_l4.set (Int.toNat (IntKind.i64.wrap (p1 + i_s10_l4))) x6).set (Int.toNat (IntKind.i64.wrap (p2 + i_s10_l4))) x9), IntKind.i64.wrap (i_s10_l4 + 1)), ⟨rfl, rfl, rfl, rfl, rfl, trivial⟩, ⟨hn4, hev, hms, hfr, hpr, hs_p0, hs_p500, hb_p500⟩, Nat.lt_succ_self _⟩
 replace h := ite_f hb h
 refine c_exit ?_
 refine k_then_exit ?_
 have hx := some_inj h
 subst hx
 have hy := some_inj hn4
 subst hy
 replace h := h4
 refine k_then_exit ?_
 refine k_block_in ?_
 refine r_normal (r_vals [] trivial ?_)
 have hx := some_inj h
 subst hx
 have hmr : MS wl4 [blk a_p0, [b_p500], M] := hms.pick [some 0, some 1, some 2] _ rfl
 have hsu : ∀ x ∈ fl [blk a_p0, [b_p500], M], x ∈ fl [blk a_p0, [b_p500], M] := pick_sub [some 0, some 1, some 2] _ rfl
 have hfe : FR w.heap.size [] := hfr.pick [] _ rfl
 exact ⟨rfl, hev, hs_p0.sub hsu, hb_p500, hmr, hfe, (NP.cons (hpr.at 0 rfl) (NP.cons (hpr.at 1 rfl) (NP.nil _ _)))⟩
def slices_rotateCmpFunc_int__L5 (p2 : Int) (p500 : List Int) (s : (List Int) × Int × Int) : Option (Step ((List Int) × Int × Int) ((List Int) × Int)) :=
match s with
| (d1_l5, i_s10_l5, j_s11_l5) =>
(if (i_s10_l5 != j_s11_l5) = true then
(if (decide (i_s10_l5 > j_s11_l5)) = true then
((slices_swapRangeCmpFunc_int_ d1_l5 (IntKind.i64.wrap (p2 - i_s10_l5)) p2 j_s11_l5 p500).bind fun x7 =>
(if x7.length = d1_l5.length then
some (.next (x7, IntKind.i64.wrap (i_s10_l5 - j_s11_l5), j_s11_l5))
else none))
else
((slices_swapRangeCmpFunc_int_ d1_l5 (IntKind.i64.wrap (p2 - i_s10_l5)) (IntKind.i64.wrap ((IntKind.i64.wrap (p2 + j_s11_l5)) - i_s10_l5)) i_s10_l5 p500).bind fun x9 =>
(if x9.length = d1_l5.length then
some (.next (x9, i_s10_l5, IntKind.i64.wrap (j_s11_l5 - i_s10_l5)))
else none)))
else
some (.done (d1_l5, i_s10_l5)))

def slices_rotateCmpFunc_int_ (p0 : List Int) (p1 : Int) (p2 : Int) (p3 : Int) (p500 : List Int) : Option (List Int) :=
((loop (slices_rotateCmpFunc_int__L5 p2 p500) (p0, IntKind.i64.wrap (p2 - p1), IntKind.i64.wrap (p3 - p2))).bind fun d => match d with
| (d1_x5, i_s10_x5) => ((slices_swapRangeCmpFunc_int_ d1_x5 (IntKind.i64.wrap (p2 - i_s10_x5)) p2 i_s10_x5 p500).bind fun x11 =>
(if x11.length = d1_x5.length then
some x11
else none)))

theorem slices_rotateCmpFunc_int__w (a_p0 : Option Addr) (c_p0 : Nat) (p0 : List Int) (p1 : Int) (p2 : Int) (p3 : Int) (b_p500 : Nat) (a_p500 : Option Addr) (c_p500 : Nat) (p500 : List Int) (r : (List Int)) (w : World) (M : List Nat) (hms : MS w [blk a_p0, [b_p500], M]) (hs_p0 : OwnS (eInt .i64) 3 w (fl [blk a_p0, [b_p500], M]) a_p0 c_p0 p0) (hs_p500 : SlR (eInt .i64) w (fl [blk a_p0, [b_p500], M]) a_p500 c_p500 p500) (hb_p500 : w.heap[b_p500]? = some (.cells #[.slice a_p500 (p500).length c_p500] 22 (0, 0))) (h : slices_rotateCmpFunc_int_ p0 p1 p2 p3 p500 = some r) : CallVC Try.prog 53 [.slice a_p0 (p0).length c_p0, Vi p1, Vi p2, Vi p3, (.func (.func 30) #[] #[Vp b_p500 0])] w fun v w' => v = .tuple #[] ∧ Ev (fl [blk a_p0, [b_p500]]) w w' ∧ OwnS (eInt .i64) 3 w' (fl [blk a_p0, [b_p500], M]) a_p0 c_p0 r ∧ w'.heap[b_p500]? = some (.cells #[.slice a_p500 (p500).length c_p500] 22 (0, 0)) ∧ MS w' [blk a_p0, [b_p500], M] ∧ FR w.heap.size [] ∧ NP (fl [blk a_p0, [b_p500]]) w.heap.size [blk a_p0, [b_p500]] := by
 refine calls_vc hmx Try.func53 (by kernel_rfl) rfl (rs := []) rfl (by kernel_rfl) (args := [.slice a_p0 (p0).length c_p0, Vi p1, Vi p2, Vi p3, (.func (.func 30) #[] #[Vp b_p500 0])]) rfl ?_
 have hev : Ev (fl [blk a_p0, [b_p500]]) w w := Ev.refl _ _
 have hfr : FR w.heap.size [] := FR.nil _
 have hpr : NP (fl [blk a_p0, [b_p500]]) w.heap.size [blk a_p0, [b_p500]] := NP.init _ _
 refine c_sp ?_
 refine x_pure 4 [(12, Vi p2), (13, Vi p1), (14, Vi (IntKind.i64.wrap (p2 - p1))), (10, Vi (IntKind.i64.wrap (p2 - p1)))] _ _ _ (by kernel_rfl) ?_
 refine x_ek ?_
 refine c_sp ?_
 refine x_pure 4 [(15, Vi p3), (16, Vi p2), (17, Vi (IntKind.i64.wrap (p3 - p2))), (11, Vi (IntKind.i64.wrap (p3 - p2)))] _ _ _ (by kernel_rfl) ?_
 refine x_ek ?_
 refine c_seq ?_
 refine c_block ?_
 obtain ⟨d5, hd5, h5⟩ := bind_some h
 obtain ⟨m5, hd5⟩ := loop_some hd5
 refine c_loop (loop_rule hmx (σ := Nat × (List Int) × Int × Int) (fun s => match s with | (_, d1_l5, i_s10_l5, j_s11_l5) => [(0, .slice a_p0 (d1_l5).length c_p0), (2, Vi p2), (4, (.func (.func 30) #[] #[Vp b_p500 0])), (10, Vi i_s10_l5), (11, Vi j_s11_l5)]) (fun s w' => match s with | (m, d1_l5, i_s10_l5, j_s11_l5) => loopN (slices_rotateCmpFunc_int__L5 p2 p500) m (d1_l5, i_s10_l5, j_s11_l5) = some d5 ∧ Ev (fl [blk a_p0, [b_p500]]) w w' ∧ MS w' [blk a_p0, [b_p500], M] ∧ FR w.heap.size [] ∧ NP (fl [blk a_p0, [b_p500]]) w.heap.size [blk a_p0, [b_p500]] ∧ OwnS (eInt .i64) 3 w' (fl [blk a_p0, [b_p500], M]) a_p0 c_p0 d1_l5 ∧ SlR (eInt .i64) w' (fl [blk a_p0, [b_p500], M]) a_p500 c_p500 p500 ∧ w'.heap[b_p500]? = some (.cells #[.slice a_p500 (p500).length c_p500] 22 (0, 0))) (fun s => s.1) (m5, p0, IntKind.i64.wrap (p2 - p1), IntKind.i64.wrap (p3 - p2)) ⟨rfl, rfl, rfl, rfl, rfl, trivial⟩ ⟨hd5, hev, hms, hfr, hpr, hs_p0, hs_p500, hb_p500⟩ ?_)
 rintro ⟨m5, d1_l5, i_s10_l5, j_s11_l5⟩ J wl5 ⟨hn5, hev, hms, hfr, hpr, hs_p0, hs_p500, hb_p500⟩
 rcases m5 with _ | m5
 · exact (loopN_zero hn5).elim
 obtain ⟨t5, h, hn5⟩ := bind_some hn5
 refine c_seq ?_
 refine c_sp ?_
 refine x_pure 3 [(18, Vi i_s10_l5), (19, Vi j_s11_l5), (20, .bool (i_s10_l5 != j_s11_l5))] _ _ _ (by kernel_rfl) ?_
 refine x_ek ?_
 refine c_norm [(0, .slice a_p0 (d1_l5).length c_p0), (2, Vi p2), (4, (.func (.func 30) #[] #[Vp b_p500 0])), (10, Vi i_s10_l5), (11, Vi j_s11_l5), (20, .bool (i_s10_l5 != j_s11_l5))] ⟨rfl, rfl, rfl, rfl, rfl, rfl, trivial⟩ (fun J => ?_)
 refine c_cond (i_s10_l5 != j_s11_l5) rfl (fun hb => ?_) (fun hb => ?_)
 · replace h := ite_t hb h
   refine c_skip ?_
   refine k_then ?_
   refine c_block ?_
   refine c_sp ?_
   refine x_pure 3 [(21, Vi i_s10_l5), (22, Vi j_s11_l5), (23, .bool (decide (i_s10_l5 > j_s11_l5)))] _ _ _ (by kernel_rfl) ?_
   refine x_ek ?_
   refine c_cond (decide (i_s10_l5 > j_s11_l5)) rfl (fun hb => ?_) (fun hb => ?_)
   · replace h := ite_t hb h
     refine c_sp ?_
     refine x_pure 7 [(24, .slice a_p0 (d1_l5).length c_p0), (25, Vi p2), (26, Vi i_s10_l5), (27, Vi (IntKind.i64.wrap (p2 - i_s10_l5))), (28, Vi p2), (29, Vi j_s11_l5), (30, (.func (.func 30) #[] #[Vp b_p500 0]))] _ _ _ (by kernel_rfl) ?_
     obtain ⟨x7, hx, h⟩ := bind_some h
     have hpk : MS wl5 ([blk a_p0, [b_p500]] ++ [M]) := hms.pick [some 0, some 1, some 2] _ rfl
     have hsb0 : ∀ x ∈ fl ([blk a_p0, [b_p500]] ++ [M]), x ∈ fl [blk a_p0, [b_p500], M] := pick_sub [some 0, some 1, some 2] _ rfl
     have hsb : ∀ x ∈ fl ([blk a_p0, [b_p500]] ++ [(fl [M])]), x ∈ fl [blk a_p0, [b_p500], M] := fun x hx => hsb0 x (fl_unfold x hx)
     have hcall := slices_swapRangeCmpFunc_int__w a_p0 c_p0 d1_l5 (IntKind.i64.wrap (p2 - i_s10_l5)) p2 j_s11_l5 b_p500 a_p500 c_p500 p500 _ wl5 (fl [M]) (hpk.fold (P := [blk a_p0, [b_p500]])) (hs_p0.sub hsb) (hs_p500.sub hsb) hb_p500 hx
     refine x_call 55 #[] #[] [.slice a_p0 (d1_l5).length c_p0, Vi (IntKind.i64.wrap (p2 - i_s10_l5)), Vi p2, Vi j_s11_l5, (.func (.func 30) #[] #[Vp b_p500 0])] _ rfl rfl rfl rfl hcall ?_
     rintro v w8 ⟨rfl, he8, hp8_0, hp8_1, hmn8, hfn8, hnp8⟩
     clear hcall hx
     refine inl1 ?_
     have hpk2 : MS wl5 ([blk a_p0, [b_p500]] ++ [M]) := hms.pick [some 0, some 1, some 2] _ rfl
     have hsb2 : ∀ x ∈ fl ([blk a_p0, [b_p500]] ++ [M]), x ∈ fl [blk a_p0, [b_p500], M] := pick_sub [some 0, some 1, some 2] _ rfl
     have hst0 := Stp.call (LS := [blk a_p0, [b_p500], M]) (res := []) (par := [blk a_p0, [b_p500]]) (R := [M]) he8 (fun b hb => hsb2 b (fl_left' (P := [blk a_p0, [b_p500]]) b hb)) hfn8 hnp8 (fun x hx => hsb2 x (fl_right' (P := [blk a_p0, [b_p500]]) x hx))
     have hsn : ∀ x ∈ fl [blk a_p0, [b_p500], M], x ∈ fl ([] ++ ([blk a_p0, [b_p500]] ++ [M])) := pick_sub [some 0, some 1, some 2] _ rfl
     have hst := hst0.res hsn
     replace hs_p500 := hs_p500.step hst
     replace hms : MS w8 [blk a_p0, [b_p500], M] := (MS.call (P := [blk a_p0, [b_p500]]) (R := [M]) (res := []) (par := [blk a_p0, [b_p500]]) hpk2 he8 hmn8 hfn8 hnp8).pick [some 0, some 1, some 2] _ rfl
     have hPf : ∀ b ∈ fl [blk a_p0, [b_p500]], b ∈ (fl [blk a_p0, [b_p500]]) ∨ w.heap.size ≤ b := NP.mem (ls := [blk a_p0, [b_p500]]) (hpr.pick [some 0, some 1] _ rfl)
     have hpr2 : NP (fl [blk a_p0, [b_p500]]) w.heap.size [blk a_p0, [b_p500]] := (NP.cons (fun b hb => (hnp8.at 0 rfl b hb).elim (fun h => hPf b h) (fun h => .inr (Nat.le_trans hev.size h))) (NP.cons (fun b hb => (hnp8.at 1 rfl b hb).elim (fun h => hPf b h) (fun h => .inr (Nat.le_trans hev.size h))) (NP.nil _ _)))
     replace hev := hev.then he8 hPf
     replace hpr := hpr2
     clear hpr2
     replace hb_p500 := hp8_1
     replace hs_p0 := OwnS.plain (M' := fl [blk a_p0, [b_p500], M]) (plain_int _) hp8_0
     clear hpk hsb hsb0 hpk2 hsb2 hst0 hsn hst
     have hgl := guard_l h
     replace h := guard_r h
     have hsl : (Value.slice a_p0 (d1_l5).length c_p0) = (Value.slice a_p0 (x7).length c_p0) := by first | (rw [hgl]; done) | simp only [hgl]
     try rw [hsl]
     clear hsl
     refine x_ek ?_
     refine c_plain ?_
     refine x_pure 4 [(32, Vi i_s10_l5), (33, Vi j_s11_l5), (34, Vi (IntKind.i64.wrap (i_s10_l5 - j_s11_l5))), (10, Vi (IntKind.i64.wrap (i_s10_l5 - j_s11_l5)))] _ _ _ (by kernel_rfl) ?_
     refine x_end rfl ?_
     refine k_block ?_
     have hx := some_inj h
     subst hx
     exact k_then ⟨(m5, x7, IntKind.i64.wrap (i_s10_l5 - j_s11_l5), j_s11_l5), ⟨rfl, rfl, rfl, rfl, rfl, trivial⟩, ⟨hn5, hev, hms, hfr, hpr, hs_p0, hs_p500, hb_p500⟩, Nat.lt_succ_self _⟩
   replace h := ite_f hb h
   refine c_sp ?_
   refine x_pure 11 [(35, .slice a_p0 (d1_l5).length c_p0), (36, Vi p2), (37, Vi i_s10_l5), (38, Vi (IntKind.i64.wrap (p2 - i_s10_l5))), (39, Vi p2), (40, Vi j_s11_l5), (41, Vi (IntKind.i64.wrap (p2 + j_s11_l5))), (42, Vi i_s10_l5), (43, Vi (IntKind.i64.wrap ((IntKind.i64.wrap (p2 + j_s11_l5)) - i_s10_l5))), (44, Vi i_s10_l5), (45, (.func (.func 30) #[] #[Vp b_p500 0]))] _ _ _ (by kernel_rfl) ?_
   obtain ⟨x9, hx, h⟩ := bind_some h
   have hpk : MS wl5 ([blk a_p0, [b_p500]] ++ [M]) := hms.pick [some 0, some 1, some 2] _ rfl
   have hsb0 : ∀ x ∈ fl ([blk a_p0, [b_p500]] ++ [M]), x ∈ fl [blk a_p0, [b_p500], M] := pick_sub [some 0, some 1, some 2] _ rfl
   have hsb : ∀ x ∈ fl ([blk a_p0, [b_p500]] ++ [(fl [M])]), x ∈ fl [blk a_p0, [b_p500], M] := fun x hx => hsb0 x (fl_unfold x hx)
   have hcall := slices_swapRangeCmpFunc_int__w a_p0 c_p0 d1_l5 (IntKind.i64.wrap (p2 - i_s10_l5)) (IntKind.i64.wrap ((IntKind.i64.wrap (p2 + j_s11_l5)) - i_s10_l5)) i_s10_l5 b_p500 a_p500 c_p500 p500 _ wl5 (fl [M]) (hpk.fold (P := [blk a_p0, [b_p500]])) (hs_p0.sub hsb) (hs_p500.sub hsb) hb_p500 hx
   refine x_call 55 #[] #[] [.slice a_p0 (d1_l5).length c_p0, Vi (IntKind.i64.wrap (p2 - i_s10_l5)), Vi (IntKind.i64.wrap ((IntKind.i64.wrap (p2 + j_s11_l5)) - i_s10_l5)), Vi i_s10_l5, (.func (.func 30) #[] #[Vp b_p500 0])] _ rfl rfl rfl rfl hcall ?_
   rintro v w10 ⟨rfl, he10, hp10_0, hp10_1, hmn10, hfn10, hnp10⟩
   clear hcall hx
   refine inl1 ?_
   have hpk2 : MS wl5 ([blk a_p0, [b_p500]] ++ [M]) := hms.pick [some 0, some 1, some 2] _ rfl
   have hsb2 : ∀ x ∈ fl ([blk a_p0, [b_p500]] ++ [M]), x ∈ fl [blk a_p0, [b_p500], M] := pick_sub [some 0, some 1, some 2] _ rfl
   have hst0 := Stp.call (LS := [blk a_p0, [b_p500], M]) (res := []) (par := [blk a_p0, [b_p500]]) (R := [M]) he10 (fun b hb => hsb2 b (fl_left' (P := [blk a_p0, [b_p500]]) b hb)) hfn10 hnp10 (fun x hx => hsb2 x (fl_right' (P := [blk a_p0, [b_p500]]) x hx))
   have hsn : ∀ x ∈ fl [blk a_p0, [b_p500], M], x ∈ fl ([] ++ ([blk a_p0, [b_p500]] ++ [M])) := pick_sub [some 0, some 1, some 2] _ rfl
   have hst := hst0.res hsn
   replace hs_p500 := hs_p500.step hst
   replace hms : MS w10 [blk a_p0, [b_p500], M] := (MS.call (P := [blk a_p0, [b_p500]]) (R := [M]) (res := []) (par := [blk a_p0, [b_p500]]) hpk2 he10 hmn10 hfn10 hnp10).pick [some 0, some 1, some 2] _ rfl
   have hPf : ∀ b ∈ fl [blk a_p0, [b_p500]], b ∈ (fl [blk a_p0, [b_p500]]) ∨ w.heap.size ≤ b := NP.mem (ls := [blk a_p0, [b_p500]]) (hpr.pick [some 0, some 1] _ rfl)
   have hpr2 : NP (fl [blk a_p0, [b_p500]]) w.heap.size [blk a_p0, [b_p500]] := (NP.cons (fun b hb => (hnp10.at 0 rfl b hb).elim (fun h => hPf b h) (fun h => .inr (Nat.le_trans hev.size h))) (NP.cons (fun b hb => (hnp10.at 1 rfl b hb).elim (fun h => hPf b h) (fun h => .inr (Nat.le_trans hev.size h))) (NP.nil _ _)))
   replace hev := hev.then he10 hPf
   replace hpr := hpr2
   clear hpr2
   replace hb_p500 := hp10_1
   replace hs_p0 := OwnS.plain (M' := fl [blk a_p0, [b_p500], M]) (plain_int _) hp10_0
   clear hpk hsb hsb0 hpk2 hsb2 hst0 hsn hst
   have hgl := guard_l h
   replace h := guard_r h
   have hsl : (Value.slice a_p0 (d1_l5).length c_p0) = (Value.slice a_p0 (x9).length c_p0) := by first | (rw [hgl]; done) | simp only [hgl]
   try rw [hsl]
   clear hsl
   refine x_ek ?_
   refine c_norm [(0, .slice a_p0 (x9).length c_p0), (2, Vi p2), (4, (.func (.func 30) #[] #[Vp b_p500 0])), (10, Vi i_s10_l5), (11, Vi j_s11_l5)] ⟨rfl, rfl, rfl, rfl, rfl, trivial⟩ (fun J => ?_)
   refine c_plain ?_
   refine x_pure 4 [(47, Vi j_s11_l5), (48, Vi i_s10_l5), (49, Vi (IntKind.i64.wrap (j_s11_l5 - i_s10_l5))), (11, Vi (IntKind.i64.wrap (j_s11_l5 - i_s10_l5)))] _ _ _ (by kernel_rfl) ?_
   refine x_end rfl ?_
   refine k_block ?_
   have hx := some_inj h
   subst hx
   exact k_then ⟨(m5, x9, i_s10_l5, IntKind.i64.wrap (j_s11_l5 - i_s10_l5)), ⟨rfl, rfl, rfl, rfl, rfl, trivial⟩, ⟨hn5, hev, hms, hfr, hpr, hs_p0, hs_p500, hb_p500⟩, Nat.lt_succ_self _⟩
 replace h := ite_f hb h
 refine c_exit ?_
 refine k_then_exit ?_
 have hx := some_inj h
 subst hx
 have hy := some_inj hn5
 subst hy
 replace h := h5
 refine k_then_exit ?_
 refine k_block_in ?_
 refine k_then ?_
 refine c_norm [(0, .slice a_p0 (d1_l5).length c_p0), (2, Vi p2), (4, (.func (.func 30) #[] #[Vp b_p500 0])), (10, Vi i_s10_l5)] ⟨rfl, rfl, rfl, rfl, trivial⟩ (fun J => ?_)
 refine c_plain ?_
 refine x_pure 7 [(50, .slice a_p0 (d1_l5).length c_p0), (51, Vi p2), (52, Vi i_s10_l5), (53, Vi (IntKind.i64.wrap (p2 - i_s10_l5))), (54, Vi p2), (55, Vi i_s10_l5), (56, (.func (.func 30) #[] #[Vp b_p500 0]))] _ _ _ (by kernel_rfl) ?_
 obtain ⟨x11, hx, h⟩ := bind_some h
 have hpk : MS wl5 ([blk a_p0, [b_p500]] ++ [M]) := hms.pick [some 0, some 1, some 2] _ rfl
 have hsb0 : ∀ x ∈ fl ([blk a_p0, [b_p500]] ++ [M]), x ∈ fl [blk a_p0, [b_p500], M] := pick_sub [some 0, some 1, some 2] _ rfl
 have hsb : ∀ x ∈ fl ([blk a_p0, [b_p500]] ++ [(fl [M])]), x ∈ fl [blk a_p0, [b_p500], M] := fun x hx => hsb0 x (fl_unfold x hx)
 have hcall := slices_swapRangeCmpFunc_int__w a_p0 c_p0 d1_l5 (IntKind.i64.wrap (p2 - i_s10_l5)) p2 i_s10_l5 b_p500 a_p500 c_p500 p500 _ wl5 (fl [M]) (hpk.fold (P := [blk a_p0, [b_p500]])) (hs_p0.sub hsb) (hs_p500.sub hsb) hb_p500 hx
 refine x_call 55 #[] #[] [.slice a_p0 (d1_l5).length c_p0, Vi (IntKind.i64.wrap (p2 - i_s10_l5)), Vi p2, Vi i_s10_l5, (.func (.func 30) #[] #[Vp b_p500 0])] _ rfl rfl rfl rfl hcall ?_
 rintro v w12 ⟨rfl, he12, hp12_0, hp12_1, hmn12, hfn12, hnp12⟩
 clear hcall hx
 refine inl1 ?_
 have hpk2 : MS wl5 ([blk a_p0, [b_p500]] ++ [M]) := hms.pick [some 0, some 1, some 2] _ rfl
 have hsb2 : ∀ x ∈ fl ([blk a_p0, [b_p500]] ++ [M]), x ∈ fl [blk a_p0, [b_p500], M] := pick_sub [some 0, some 1, some 2] _ rfl
 have hst0 := Stp.call (LS := [blk a_p0, [b_p500], M]) (res := []) (par := [blk a_p0, [b_p500]]) (R := [M]) he12 (fun b hb => hsb2 b (fl_left' (P := [blk a_p0, [b_p500]]) b hb)) hfn12 hnp12 (fun x hx => hsb2 x (fl_right' (P := [blk a_p0, [b_p500]]) x hx))
 have hsn : ∀ x ∈ fl [blk a_p0, [b_p500], M], x ∈ fl ([] ++ ([blk a_p0, [b_p500]] ++ [M])) := pick_sub [some 0, some 1, some 2] _ rfl
 have hst := hst0.res hsn
 replace hs_p500 := hs_p500.step hst
 replace hms : MS w12 [blk a_p0, [b_p500], M] := (MS.call (P := [blk a_p0, [b_p500]]) (R := [M]) (res := []) (par := [blk a_p0, [b_p500]]) hpk2 he12 hmn12 hfn12 hnp12).pick [some 0, some 1, some 2] _ rfl
 have hPf : ∀ b ∈ fl [blk a_p0, [b_p500]], b ∈ (fl [blk a_p0, [b_p500]]) ∨ w.heap.size ≤ b := NP.mem (ls := [blk a_p0, [b_p500]]) (hpr.pick [some 0, some 1] _ rfl)
 have hpr2 : NP (fl [blk a_p0, [b_p500]]) w.heap.size [blk a_p0, [b_p500]] := (NP.cons (fun b hb => (hnp12.at 0 rfl b hb).elim (fun h => hPf b h) (fun h => .inr (Nat.le_trans hev.size h))) (NP.cons (fun b hb => (hnp12.at 1 rfl b hb).elim (fun h => hPf b h) (fun h => .inr (Nat.le_trans hev.size h))) (NP.nil _ _)))
 replace hev := hev.then he12 hPf
 replace hpr := hpr2
 clear hpr2
 replace hb_p500 := hp12_1
 replace hs_p0 := OwnS.plain (M' := fl [blk a_p0, [b_p500], M]) (plain_int _) hp12_0
 clear hpk hsb hsb0 hpk2 hsb2 hst0 hsn hst
 have hgl := guard_l h
 replace h := guard_r h
 have hsl : (Value.slice a_p0 (d1_l5).length c_p0) = (Value.slice a_p0 (x11).length c_p0) := by first | (rw [hgl]; done) | simp only [hgl]
 try rw [hsl]
 clear hsl
 refine x_end rfl ?_
 refine r_normal (r_vals [] trivial ?_)
 have hx := some_inj h
 subst hx
 have hmr : MS w12 [blk a_p0, [b_p500], M] := hms.pick [some 0, some 1, some 2] _ rfl
 have hsu : ∀ x ∈ fl [blk a_p0, [b_p500], M], x ∈ fl [blk a_p0, [b_p500], M] := pick_sub [some 0, some 1, some 2] _ rfl
 have hfe : FR w.heap.size [] := hfr.pick [] _ rfl
 exact ⟨rfl, hev, hs_p0.sub hsu, hb_p500, hmr, hfe, (NP.cons (hpr.at 0 rfl) (NP.cons (hpr.at 1 rfl) (NP.nil _ _)))⟩
def slices_symMergeCmpFunc_int__L17 (i_s10_x6 : Int) (s : (List Int) × Int) : Option (Step ((List Int) × Int) (List Int)) :=
match s with
| (d1_l17, k_s13_l17) =>
(if (decide (k_s13_l17 < (IntKind.i64.wrap (i_s10_x6 - 1)))) = true then
((idx d1_l17 (IntKind.i64.wrap (k_s13_l17 + 1))).bind fun x19 =>
((idx d1_l17 k_s13_l17).bind fun x22 =>
((idx d1_l17 k_s13_l17).bind fun x25 =>
((idx (d1_l17.set (Int.toNat k_s13_l17) x19) (IntKind.i64.wrap (k_s13_l17 + 1))).bind fun x30 =>
some (.next (((d1_l17.set (Int.toNat k_s13_l17) x19).set (Int.toNat (IntKind.i64.wrap (k_s13_l17 + 1))) x22), IntKind.i64.wrap (k_s13_l17 + 1)))))))
else
some (.done d1_l17))

def slices_symMergeCmpFunc_int__L6 (p0 : List Int) (p1 : Int) (p500 : List Int) (s : Int × Int) : Option (Step (Int × Int) Int) :=
match s with
| (i_s10_l6, j_s11_l6) =>
(if (decide (i_s10_l6 < j_s11_l6)) = true then
((idx p0 (IntKind.i64.wrap (Int.fdiv (IntKind.u64.wrap (IntKind.i64.wrap (i_s10_l6 + j_s11_l6))) (2 ^ (min (Int.toNat (1)) IntKind.u64.bits))))).bind fun x8 =>
((idx p0 p1).bind fun x11 =>
((assign_order_1 x8 x11 p500).bind fun x15 =>
(if (decide (x15 < 0)) = true then
some (.next (IntKind.i64.wrap ((IntKind.i64.wrap (Int.fdiv (IntKind.u64.wrap (IntKind.i64.wrap (i_s10_l6 + j_s11_l6))) (2 ^ (min (Int.toNat (1)) IntKind.u64.bits)))) + 1), j_s11_l6))
else
some (.next (i_s10_l6, IntKind.i64.wrap (Int.fdiv (IntKind.u64.wrap (IntKind.i64.wrap (i_s10_l6 + j_s11_l6))) (2 ^ (min (Int.toNat (1)) IntKind.u64.bits)))))))))
else
some (.done i_s10_l6))

def slices_symMergeCmpFunc_int__L48 (i_s14_x37 : Int) (s : (List Int) × Int) : Option (Step ((List Int) × Int) (List Int)) :=
match s with
| (d1_l48, k_s17_l48) =>
(if (decide (k_s17_l48 > i_s14_x37)) = true then
((idx d1_l48 (IntKind.i64.wrap (k_s17_l48 - 1))).bind fun x50 =>
((idx d1_l48 k_s17_l48).bind fun x53 =>
((idx d1_l48 k_s17_l48).bind fun x56 =>
((idx (d1_l48.set (Int.toNat k_s17_l48) x50) (IntKind.i64.wrap (k_s17_l48 - 1))).bind fun x61 =>
some (.next (((d1_l48.set (Int.toNat k_s17_l48) x50).set (Int.toNat (IntKind.i64.wrap (k_s17_l48 - 1))) x53), IntKind.i64.wrap (k_s17_l48 - 1)))))))
else
some (.done d1_l48))

def slices_symMergeCmpFunc_int__L37 (p0 : List Int) (p2 : Int) (p500 : List Int) (s : Int × Int) : Option (Step (Int × Int) Int) :=
match s with
| (i_s14_l37, j_s15_l37) =>
(if (decide (i_s14_l37 < j_s15_l37)) = true then
((idx p0 p2).bind fun x39 =>
((idx p0 (IntKind.i64.wrap (Int.fdiv (IntKind.u64.wrap (IntKind.i64.wrap (i_s14_l37 + j_s15_l37))) (2 ^ (min (Int.toNat (1)) IntKind.u64.bits))))).bind fun x42 =>
((assign_order_1 x39 x42 p500).bind fun x46 =>
(if (!(decide (x46 < 0))) = true then
some (.next (IntKind.i64.wrap ((IntKind.i64.wrap (Int.fdiv (IntKind.u64.wrap (IntKind.i64.wrap (i_s14_l37 + j_s15_l37))) (2 ^ (min (Int.toNat (1)) IntKind.u64.bits)))) + 1), j_s15_l37))
else
some (.next (i_s14_l37, IntKind.i64.wrap (Int.fdiv (IntKind.u64.wrap (IntKind.i64.wrap (i_s14_l37 + j_s15_l37))) (2 ^ (min (Int.toNat (1)) IntKind.u64.bits)))))))))
else
some (.done i_s14_l37))

def slices_symMergeCmpFunc_int__J87 (p1 : Int) (p2 : Int) (p3 : Int) (p500 : List Int) (RF : (List Int) → Int → Int → Int → (List Int) → Option (List Int)) (start_s20_x68 : Int) (d1_j83 : List Int) (t213__s213_j87 : Bool) : Option (List Int) :=
(if t213__s213_j87 = true then
((RF d1_j83 (IntKind.i64.wrap (Int.fdiv (IntKind.u64.wrap (IntKind.i64.wrap (p1 + p3))) (2 ^ (min (Int.toNat (1)) IntKind.u64.bits)))) (IntKind.i64.wrap ((IntKind.i64.wrap ((IntKind.i64.wrap (Int.fdiv (IntKind.u64.wrap (IntKind.i64.wrap (p1 + p3))) (2 ^ (min (Int.toNat (1)) IntKind.u64.bits)))) + p2)) - start_s20_x68)) p3 p500).bind fun x88 =>
(if x88.length = d1_j83.length then
some x88
else none))
else
some d1_j83)

def slices_symMergeCmpFunc_int__J83 (p1 : Int) (p2 : Int) (p3 : Int) (p500 : List Int) (RF : (List Int) → Int → Int → Int → (List Int) → Option (List Int)) (start_s20_x68 : Int) (d1_j83 : List Int) : Option (List Int) :=
(if (decide ((IntKind.i64.wrap (Int.fdiv (IntKind.u64.wrap (IntKind.i64.wrap (p1 + p3))) (2 ^ (min (Int.toNat (1)) IntKind.u64.bits)))) < (IntKind.i64.wrap ((IntKind.i64.wrap ((IntKind.i64.wrap (Int.fdiv (IntKind.u64.wrap (IntKind.i64.wrap (p1 + p3))) (2 ^ (min (Int.toNat (1)) IntKind.u64.bits)))) + p2)) - start_s20_x68)))) = true then
slices_symMergeCmpFunc_int__J87 p1 p2 p3 p500 RF start_s20_x68 d1_j83 (decide ((IntKind.i64.wrap ((IntKind.i64.wrap ((IntKind.i64.wrap (Int.fdiv (IntKind.u64.wrap (IntKind.i64.wrap (p1 + p3))) (2 ^ (min (Int.toNat (1)) IntKind.u64.bits)))) + p2)) - start_s20_x68)) < p3))
else
slices_symMergeCmpFunc_int__J87 p1 p2 p3 p500 RF start_s20_x68 d1_j83 false)

def slices_symMergeCmpFunc_int__J84 (p1 : Int) (p2 : Int) (p3 : Int) (p500 : List Int) (RF : (List Int) → Int → Int → Int → (List Int) → Option (List Int)) (start_s20_x68 : Int) (d1_j79 : List Int) (t199__s199_j84 : Bool) : Option (List Int) :=
(if t199__s199_j84 = true then
((RF d1_j79 p1 start_s20_x68 (IntKind.i64.wrap (Int.fdiv (IntKind.u64.wrap (IntKind.i64.wrap (p1 + p3))) (2 ^ (min (Int.toNat (1)) IntKind.u64.bits)))) p500).bind fun x85 =>
(if x85.length = d1_j79.length then
slices_symMergeCmpFunc_int__J83 p1 p2 p3 p500 RF start_s20_x68 x85
else none))
else
slices_symMergeCmpFunc_int__J83 p1 p2 p3 p500 RF start_s20_x68 d1_j79)

def slices_symMergeCmpFunc_int__J79 (p1 : Int) (p2 : Int) (p3 : Int) (p500 : List Int) (RF : (List Int) → Int → Int → Int → (List Int) → Option (List Int)) (start_s20_x68 : Int) (d1_j79 : List Int) : Option (List Int) :=
(if (decide (p1 < start_s20_x68)) = true then
slices_symMergeCmpFunc_int__J84 p1 p2 p3 p500 RF start_s20_x68 d1_j79 (decide (start_s20_x68 < (IntKind.i64.wrap (Int.fdiv (IntKind.u64.wrap (IntKind.i64.wrap (p1 + p3))) (2 ^ (min (Int.toNat (1)) IntKind.u64.bits))))))
else
slices_symMergeCmpFunc_int__J84 p1 p2 p3 p500 RF start_s20_x68 d1_j79 false)

def slices_symMergeCmpFunc_int__J80 (p0 : List Int) (p1 : Int) (p2 : Int) (p3 : Int) (p500 : List Int) (RF : (List Int) → Int → Int → Int → (List Int) → Option (List Int)) (start_s20_x68 : Int) (t185__s185_j80 : Bool) : Option (List Int) :=
(if t185__s185_j80 = true then
((slices_rotateCmpFunc_int_ p0 start_s20_x68 p2 (IntKind.i64.wrap ((IntKind.i64.wrap ((IntKind.i64.wrap (Int.fdiv (IntKind.u64.wrap (IntKind.i64.wrap (p1 + p3))) (2 ^ (min (Int.toNat (1)) IntKind.u64.bits)))) + p2)) - start_s20_x68)) p500).bind fun x81 =>
(if x81.length = p0.length then
slices_symMergeCmpFunc_int__J79 p1 p2 p3 p500 RF start_s20_x68 x81
else none))
else
slices_symMergeCmpFunc_int__J79 p1 p2 p3 p500 RF start_s20_x68 p0)

def slices_symMergeCmpFunc_int__L68 (p0 : List Int) (p1 : Int) (p2 : Int) (p3 : Int) (p500 : List Int) (s : Int × Int) : Option (Step (Int × Int) Int) :=
match s with
| (start_s20_l68, v_r_s21_l68) =>
(if (decide (start_s20_l68 < v_r_s21_l68)) = true then
((idx p0 (IntKind.i64.wrap ((IntKind.i64.wrap ((IntKind.i64.wrap ((IntKind.i64.wrap (Int.fdiv (IntKind.u64.wrap (IntKind.i64.wrap (p1 + p3))) (2 ^ (min (Int.toNat (1)) IntKind.u64.bits)))) + p2)) - 1)) - (IntKind.i64.wrap (Int.fdiv (IntKind.u64.wrap (IntKind.i64.wrap (start_s20_l68 + v_r_s21_l68))) (2 ^ (min (Int.toNat (1)) IntKind.u64.bits))))))).bind fun x70 =>
((idx p0 (IntKind.i64.wrap (Int.fdiv (IntKind.u64.wrap (IntKind.i64.wrap (start_s20_l68 + v_r_s21_l68))) (2 ^ (min (Int.toNat (1)) IntKind.u64.bits))))).bind fun x73 =>
((assign_order_1 x70 x73 p500).bind fun x77 =>
(if (!(decide (x77 < 0))) = true then
some (.next (IntKind.i64.wrap ((IntKind.i64.wrap (Int.fdiv (IntKind.u64.wrap (IntKind.i64.wrap (start_s20_l68 + v_r_s21_l68))) (2 ^ (min (Int.toNat (1)) IntKind.u64.bits)))) + 1), v_r_s21_l68))
else
some (.next (start_s20_l68, IntKind.i64.wrap (Int.fdiv (IntKind.u64.wrap (IntKind.i64.wrap (start_s20_l68 + v_r_s21_l68))) (2 ^ (min (Int.toNat (1)) IntKind.u64.bits)))))))))
else
some (.done start_s20_l68))

def slices_symMergeCmpFunc_int__J66 (p0 : List Int) (p1 : Int) (p2 : Int) (p3 : Int) (p500 : List Int) (RF : (List Int) → Int → Int → Int → (List Int) → Option (List Int)) (start_s20_j66 : Int) (v_r_s21_j66 : Int) : Option (List Int) :=
((loop (slices_symMergeCmpFunc_int__L68 p0 p1 p2 p3 p500) (start_s20_j66, v_r_s21_j66)).bind fun d => match d with
| start_s20_x68 => (if (decide (start_s20_x68 < p2)) = true then
slices_symMergeCmpFunc_int__J80 p0 p1 p2 p3 p500 RF start_s20_x68 (decide (p2 < (IntKind.i64.wrap ((IntKind.i64.wrap ((IntKind.i64.wrap (Int.fdiv (IntKind.u64.wrap (IntKind.i64.wrap (p1 + p3))) (2 ^ (min (Int.toNat (1)) IntKind.u64.bits)))) + p2)) - start_s20_x68))))
else
slices_symMergeCmpFunc_int__J80 p0 p1 p2 p3 p500 RF start_s20_x68 false))

def slices_symMergeCmpFunc_int__b (RF : (List Int) → Int → Int → Int → (List Int) → Option (List Int)) (p0 : List Int) (p1 : Int) (p2 : Int) (p3 : Int) (p500 : List Int) : Option (List Int) :=
(if ((IntKind.i64.wrap (p2 - p1)) == 1) = true then
((loop (slices_symMergeCmpFunc_int__L6 p0 p1 p500) (p2, p3)).bind fun d => match d with
| i_s10_x6 => ((loop (slices_symMergeCmpFunc_int__L17 i_s10_x6) (p0, p1)).bind fun d => match d with
| d1_x17 => some d1_x17))
else
(if ((IntKind.i64.wrap (p3 - p2)) == 1) = true then
((loop (slices_symMergeCmpFunc_int__L37 p0 p2 p500) (p1, p2)).bind fun d => match d with
| i_s14_x37 => ((loop (slices_symMergeCmpFunc_int__L48 i_s14_x37) (p0, p2)).bind fun d => match d with
| d1_x48 => some d1_x48))
else
(if (decide (p2 > (IntKind.i64.wrap (Int.fdiv (IntKind.u64.wrap (IntKind.i64.wrap (p1 + p3))) (2 ^ (min (Int.toNat (1)) IntKind.u64.bits)))))) = true then
slices_symMergeCmpFunc_int__J66 p0 p1 p2 p3 p500 RF (IntKind.i64.wrap ((IntKind.i64.wrap ((IntKind.i64.wrap (Int.fdiv (IntKind.u64.wrap (IntKind.i64.wrap (p1 + p3))) (2 ^ (min (Int.toNat (1)) IntKind.u64.bits)))) + p2)) - p3)) (IntKind.i64.wrap (Int.fdiv (IntKind.u64.wrap (IntKind.i64.wrap (p1 + p3))) (2 ^ (min (Int.toNat (1)) IntKind.u64.bits))))
else
slices_symMergeCmpFunc_int__J66 p0 p1 p2 p3 p500 RF p1 p2)))

theorem slices_symMergeCmpFunc_int__bw (RF : (List Int) → Int → Int → Int → (List Int) → Option (List Int)) (RF_w : ∀ (a_p0 : Option Addr) (c_p0 : Nat) (p0 : List Int) (p1 : Int) (p2 : Int) (p3 : Int) (b_p500 : Nat) (a_p500 : Option Addr) (c_p500 : Nat) (p500 : List Int) (r : (List Int)) (w : World) (M : List Nat) (hms : MS w [blk a_p0, [b_p500], M]) (hs_p0 : OwnS (eInt .i64) 3 w (fl [blk a_p0, [b_p500], M]) a_p0 c_p0 p0) (hs_p500 : SlR (eInt .i64) w (fl [blk a_p0, [b_p500], M]) a_p500 c_p500 p500) (hb_p500 : w.heap[b_p500]? = some (.cells #[.slice a_p500 (p500).length c_p500] 22 (0, 0))) (h : RF p0 p1 p2 p3 p500 = some r), CallVC Try.prog 46 [.slice a_p0 (p0).length c_p0, Vi p1, Vi p2, Vi p3, (.func (.func 30) #[] #[Vp b_p500 0])] w fun v w' => v = .tuple #[] ∧ Ev (fl [blk a_p0, [b_p500]]) w w' ∧ OwnS (eInt .i64) 3 w' (fl [blk a_p0, [b_p500], M]) a_p0 c_p0 r ∧ w'.heap[b_p500]? = some (.cells #[.slice a_p500 (p500).length c_p500] 22 (0, 0)) ∧ MS w' [blk a_p0, [b_p500], M] ∧ FR w.heap.size [] ∧ NP (fl [blk a_p0, [b_p500]]) w.heap.size [blk a_p0, [b_p500]]) (a_p0 : Option Addr) (c_p0 : Nat) (p0 : List Int) (p1 : Int) (p2 : Int) (p3 : Int) (b_p500 : Nat) (a_p500 : Option Addr) (c_p500 : Nat) (p500 : List Int) (r : (List Int)) (w : World) (M : List Nat) (hms : MS w [blk a_p0, [b_p500], M]) (hs_p0 : OwnS (eInt .i64) 3 w (fl [blk a_p0, [b_p500], M]) a_p0 c_p0 p0) (hs_p500 : SlR (eInt .i64) w (fl [blk a_p0, [b_p500], M]) a_p500 c_p500 p500) (hb_p500 : w.heap[b_p500]? = some (.cells #[.slice a_p500 (p500).length c_p500] 22 (0, 0))) (h : slices_symMergeCmpFunc_int__b RF p0 p1 p2 p3 p500 = some r) : CallVC Try.prog 46 [.slice a_p0 (p0).length c_p0, Vi p1, Vi p2, Vi p3, (.func (.func 30) #[] #[Vp b_p500 0])] w fun v w' => v = .tuple #[] ∧ Ev (fl [blk a_p0, [b_p500]]) w w' ∧ OwnS (eInt .i64) 3 w' (fl [blk a_p0, [b_p500], M]) a_p0 c_p0 r ∧ w'.heap[b_p500]? = some (.cells #[.slice a_p500 (p500).length c_p500] 22 (0, 0)) ∧ MS w' [blk a_p0, [b_p500], M] ∧ FR w.heap.size [] ∧ NP (fl [blk a_p0, [b_p500]]) w.heap.size [blk a_p0, [b_p500]] := by
 refine calls_vc hmx Try.func46 (by kernel_rfl) rfl (rs := []) rfl (by kernel_rfl) (args := [.slice a_p0 (p0).length c_p0, Vi p1, Vi p2, Vi p3, (.func (.func 30) #[] #[Vp b_p500 0])]) rfl ?_
 have hev : Ev (fl [blk a_p0, [b_p500]]) w w := Ev.refl _ _
 have hfr : FR w.heap.size [] := FR.nil _
 have hpr : NP (fl [blk a_p0, [b_p500]]) w.heap.size [blk a_p0, [b_p500]] := NP.init _ _
 refine c_seq ?_
 refine c_sp ?_
 refine x_pure 4 [(25, Vi p2), (26, Vi p1), (27, Vi (IntKind.i64.wrap (p2 - p1))), (28, .bool ((IntKind.i64.wrap (p2 - p1)) == 1))] _ _ _ (by kernel_rfl) ?_
 refine x_ek ?_
 refine c_cond ((IntKind.i64.wrap (p2 - p1)) == 1) rfl (fun hb => ?_) (fun hb => ?_)
 · replace h := ite_t hb h
   refine c_sp ?_
   refine x_pure 2 [(29, Vi p2), (10, Vi p2)] _ _ _ (by kernel_rfl) ?_
   refine x_ek ?_
   refine c_sp ?_
   refine x_pure 2 [(30, Vi p3), (11, Vi p3)] _ _ _ (by kernel_rfl) ?_
   refine x_ek ?_
   refine c_seq ?_
   refine c_block ?_
   obtain ⟨d6, hd6, h6⟩ := bind_some h
   obtain ⟨m6, hd6⟩ := loop_some hd6
   refine c_loop (loop_rule hmx (σ := Nat × Int × Int) (fun s => match s with | (_, i_s10_l6, j_s11_l6) => [(0, .slice a_p0 (p0).length c_p0), (1, Vi p1), (4, (.func (.func 30) #[] #[Vp b_p500 0])), (10, Vi i_s10_l6), (11, Vi j_s11_l6)]) (fun s w' => match s with | (m, i_s10_l6, j_s11_l6) => loopN (slices_symMergeCmpFunc_int__L6 p0 p1 p500) m (i_s10_l6, j_s11_l6) = some d6 ∧ Ev (fl [blk a_p0, [b_p500]]) w w' ∧ MS w' [blk a_p0, [b_p500], M] ∧ FR w.heap.size [] ∧ NP (fl [blk a_p0, [b_p500]]) w.heap.size [blk a_p0, [b_p500]] ∧ OwnS (eInt .i64) 3 w' (fl [blk a_p0, [b_p500], M]) a_p0 c_p0 p0 ∧ SlR (eInt .i64) w' (fl [blk a_p0, [b_p500], M]) a_p500 c_p500 p500 ∧ w'.heap[b_p500]? = some (.cells #[.slice a_p500 (p500).length c_p500] 22 (0, 0))) (fun s => s.1) (m6, p2, p3) ⟨rfl, rfl, rfl, rfl, rfl, trivial⟩ ⟨hd6, hev, hms, hfr, hpr, hs_p0, hs_p500, hb_p500⟩ ?_)
   rintro ⟨m6, i_s10_l6, j_s11_l6⟩ J wl6 ⟨hn6, hev, hms, hfr, hpr, hs_p0, hs_p500, hb_p500⟩
   rcases m6 with _ | m6
   · exact (loopN_zero hn6).elim
   obtain ⟨t6, h, hn6⟩ := bind_some hn6
   refine c_seq ?_
   refine c_sp ?_
   refine x_pure 3 [(31, Vi i_s10_l6), (32, Vi j_s11_l6), (33, .bool (decide (i_s10_l6 < j_s11_l6)))] _ _ _ (by kernel_rfl) ?_
   refine x_ek ?_
   refine c_norm [(0, .slice a_p0 (p0).length c_p0), (1, Vi p1), (4, (.func (.func 30) #[] #[Vp b_p500 0])), (10, Vi i_s10_l6), (11, Vi j_s11_l6), (33, .bool (decide (i_s10_l6 < j_s11_l6)))] ⟨rfl, rfl, rfl, rfl, rfl, rfl, trivial⟩ (fun J => ?_)
   refine c_cond (decide (i_s10_l6 < j_s11_l6)) rfl (fun hb => ?_) (fun hb => ?_)
   · replace h := ite_t hb h
     refine c_skip ?_
     refine k_then ?_
     refine c_block ?_
     refine c_sp ?_
     refine x_pure 3 [(34, Vi i_s10_l6), (35, Vi j_s11_l6), (36, Vi (IntKind.i64.wrap (i_s10_l6 + j_s11_l6)))] _ _ _ (by kernel_rfl) ?_
     refine x_convert (.int .u64 (IntKind.u64.wrap (IntKind.i64.wrap (i_s10_l6 + j_s11_l6)))) _ rfl rfl rfl (tcv3_50 (IntKind.i64.wrap (i_s10_l6 + j_s11_l6)) _) ?_
     refine inl1 ?_
     refine x_pure 1 [(38, .int .u64 (Int.fdiv (IntKind.u64.wrap (IntKind.i64.wrap (i_s10_l6 + j_s11_l6))) (2 ^ (min (Int.toNat (1)) IntKind.u64.bits))))] _ _ _ (by kernel_rfl) ?_
     refine x_convert (Vi (IntKind.i64.wrap (Int.fdiv (IntKind.u64.wrap (IntKind.i64.wrap (i_s10_l6 + j_s11_l6))) (2 ^ (min (Int.toNat (1)) IntKind.u64.bits))))) _ rfl rfl rfl (tcv50_3 (Int.fdiv (IntKind.u64.wrap (IntKind.i64.wrap (i_s10_l6 + j_s11_l6))) (2 ^ (min (Int.toNat (1)) IntKind.u64.bits))) _) ?_
     refine inl1 ?_
     refine x_pure 1 [(12, Vi (IntKind.i64.wrap (Int.fdiv (IntKind.u64.wrap (IntKind.i64.wrap (i_s10_l6 + j_s11_l6))) (2 ^ (min (Int.toNat (1)) IntKind.u64.bits)))))] _ _ _ (by kernel_rfl) ?_
     refine x_ek ?_
     refine c_seq ?_
     refine c_drawn [] [(0, false), (1, false), (2, false), (3, false), (4, false), (5, false), (6, false), (7, false), (8, false), (9, true), (10, false)] _ (by kernel_rfl) rfl ?_
     have hst := Stp.ext (ls := [blk a_p0, [b_p500], M]) (Ev.drew wl6)
     replace hs_p0 := hs_p0.step hst (Ev.drew wl6) nn2
     replace hb_p500 := (Ev.drew wl6).box hb_p500 nn
     replace hs_p500 := hs_p500.step hst
     replace hms := hms.ev (Ev.drew wl6)
     replace hev := hev.ext (Ev.drew wl6)
     refine x_pure 3 [(40, (.func (.func 30) #[] #[Vp b_p500 0])), (41, .slice a_p0 (p0).length c_p0), (42, Vi (IntKind.i64.wrap (Int.fdiv (IntKind.u64.wrap (IntKind.i64.wrap (i_s10_l6 + j_s11_l6))) (2 ^ (min (Int.toNat (1)) IntKind.u64.bits)))))] _ _ _ (by kernel_rfl) ?_
     obtain ⟨x8, hx8, h⟩ := bind_some h
     obtain ⟨g8, cs8, ha8, hr8, hc8, hR⟩ := own_index (Mo := []) tsl22 hs_p0 hx8
     obtain rfl := hR
     refine x_indexAddr (xv := .slice a_p0 (p0).length c_p0) (yv := Vi (IntKind.i64.wrap (Int.fdiv (IntKind.u64.wrap (IntKind.i64.wrap (i_s10_l6 + j_s11_l6))) (2 ^ (min (Int.toNat (1)) IntKind.u64.bits))))) (.pointer (some ⟨g8, (Int.toNat (IntKind.i64.wrap (Int.fdiv (IntKind.u64.wrap (IntKind.i64.wrap (i_s10_l6 + j_s11_l6))) (2 ^ (min (Int.toNat (1)) IntKind.u64.bits))))) * (eInt .i64).n, none⟩)) rfl rfl rfl rfl hr8 ?_
     refine x_load (xv := .pointer (some ⟨g8, (Int.toNat (IntKind.i64.wrap (Int.fdiv (IntKind.u64.wrap (IntKind.i64.wrap (i_s10_l6 + j_s11_l6))) (2 ^ (min (Int.toNat (1)) IntKind.u64.bits))))) * (eInt .i64).n, none⟩)) (Vi x8) rfl rfl rfl (reads_cell0 tcell3 hc8 (fun _ h => by cases h)) ?_
     refine x_pure 2 [(45, .slice a_p0 (p0).length c_p0), (46, Vi p1)] _ _ _ (by kernel_rfl) ?_
     obtain ⟨x11, hx11, h⟩ := bind_some h
     obtain ⟨g11, cs11, ha11, hr11, hc11, hR⟩ := own_index (Mo := []) tsl22 hs_p0 hx11
     obtain rfl := hR
     refine x_indexAddr (xv := .slice a_p0 (p0).length c_p0) (yv := Vi p1) (.pointer (some ⟨g11, (Int.toNat p1) * (eInt .i64).n, none⟩)) rfl rfl rfl rfl hr11 ?_
     refine x_load (xv := .pointer (some ⟨g11, (Int.toNat p1) * (eInt .i64).n, none⟩)) (Vi x11) rfl rfl rfl (reads_cell0 tcell3 hc11 (fun _ h => by cases h)) ?_
     obtain ⟨x15, hx, h⟩ := bind_some h
     have hpk : MS (wl6).drew ([[b_p500]] ++ [blk a_p0, M]) := hms.pick [some 1, some 0, some 2] _ rfl
     have hsb0 : ∀ x ∈ fl ([[b_p500]] ++ [blk a_p0, M]), x ∈ fl [blk a_p0, [b_p500], M] := pick_sub [some 1, some 0, some 2] _ rfl
     have hsb : ∀ x ∈ fl ([[b_p500]] ++ [(fl [blk a_p0, M])]), x ∈ fl [blk a_p0, [b_p500], M] := fun x hx => hsb0 x (fl_unfold x hx)
     have hcall := assign_order_1_w x8 x11 b_p500 a_p500 c_p500 p500 _ (wl6).drew (fl [blk a_p0, M]) (hpk.fold (P := [[b_p500]])) (hs_p500.sub hsb) hb_p500 hx
     refine x_call 30 #[] #[Vp b_p500 0] [Vi x8, Vi x11, Vp b_p500 0] _ rfl rfl rfl rfl hcall ?_
     rintro v w16 ⟨rfl, he16, hp16_0⟩
     clear hcall hx
     refine inl1 ?_
     have hpk2 : MS (wl6).drew ([[b_p500]] ++ [blk a_p0, M]) := hms.pick [some 1, some 0, some 2] _ rfl
     have hsb2 : ∀ x ∈ fl ([[b_p500]] ++ [blk a_p0, M]), x ∈ fl [blk a_p0, [b_p500], M] := pick_sub [some 1, some 0, some 2] _ rfl
     have hst0 := Stp.call (LS := [blk a_p0, [b_p500], M]) (res := []) (par := [[b_p500]]) (R := [blk a_p0, M]) he16 (fun b hb => hsb2 b (fl_left' (P := [[b_p500]]) b hb)) (FR.nil _) (NP.init _ _) (fun x hx => hsb2 x (fl_right' (P := [[b_p500]]) x hx))
     have hsn : ∀ x ∈ fl [blk a_p0, [b_p500], M], x ∈ fl ([] ++ ([[b_p500]] ++ [blk a_p0, M])) := pick_sub [some 1, some 0, some 2] _ rfl
     have hst := hst0.res hsn
     replace hs_p0 := hs_p0.step hst he16 (MS.outs (P := [[b_p500]]) hpk2 0 rfl)
     replace hs_p500 := hs_p500.step hst
     replace hms := hms.ev he16
     have hPf : ∀ b ∈ fl [[b_p500]], b ∈ (fl [blk a_p0, [b_p500]]) ∨ w.heap.size ≤ b := NP.mem (ls := [[b_p500]]) (hpr.pick [some 1] _ rfl)
     replace hev := hev.then he16 hPf
     replace hb_p500 := hp16_0
     clear hpk hsb hsb0 hpk2 hsb2 hst0 hsn hst
     refine x_pure 1 [(50, .bool (decide (x15 < 0)))] _ _ _ (by kernel_rfl) ?_
     refine x_ek ?_
     refine c_norm [(0, .slice a_p0 (p0).length c_p0), (1, Vi p1), (4, (.func (.func 30) #[] #[Vp b_p500 0])), (10, Vi i_s10_l6), (11, Vi j_s11_l6), (12, Vi (IntKind.i64.wrap (Int.fdiv (IntKind.u64.wrap (IntKind.i64.wrap (i_s10_l6 + j_s11_l6))) (2 ^ (min (Int.toNat (1)) IntKind.u64.bits))))), (50, .bool (decide (x15 < 0)))] ⟨rfl, rfl, rfl, rfl, rfl, rfl, rfl, trivial⟩ (fun J => ?_)
     refine c_cond (decide (x15 < 0)) rfl (fun hb => ?_) (fun hb => ?_)
     · replace h := ite_t hb h
       refine c_plain ?_
       refine x_pure 3 [(51, Vi (IntKind.i64.wrap (Int.fdiv (IntKind.u64.wrap (IntKind.i64.wrap (i_s10_l6 + j_s11_l6))) (2 ^ (min (Int.toNat (1)) IntKind.u64.bits))))), (52, Vi (IntKind.i64.wrap ((IntKind.i64.wrap (Int.fdiv (IntKind.u64.wrap (IntKind.i64.wrap (i_s10_l6 + j_s11_l6))) (2 ^ (min (Int.toNat (1)) IntKind.u64.bits)))) + 1))), (10, Vi (IntKind.i64.wrap ((IntKind.i64.wrap (Int.fdiv (IntKind.u64.wrap (IntKind.i64.wrap (i_s10_l6 + j_s11_l6))) (2 ^ (min (Int.toNat (1)) IntKind.u64.bits)))) + 1)))] _ _ _ (by kernel_rfl) ?_
       refine x_end rfl ?_
       refine k_block ?_
       have hx := some_inj h
       subst hx
       exact k_then ⟨(m6, IntKind.i64.wrap ((IntKind.i64.wrap (Int.fdiv (IntKind.u64.wrap (IntKind.i64.wrap (i_s10_l6 + j_s11_l6))) (2 ^ (min (Int.toNat (1)) IntKind.u64.bits)))) + 1), j_s11_l6), ⟨rfl, rfl, rfl, rfl, rfl, trivial⟩, ⟨hn6, hev, hms, hfr, hpr, hs_p0, hs_p500, hb_p500⟩, Nat.lt_succ_self _⟩
     replace h := ite_f hb h
     refine c_plain ?_
     refine x_pure 2 [(53, Vi (IntKind.i64.wrap (Int.fdiv (IntKind.u64.wrap (IntKind.i64.wrap (i_s10_l6 + j_s11_l6))) (2 ^ (min (Int.toNat (1)) IntKind.u64.bits))))), (11, Vi (IntKind.i64.wrap (Int.fdiv (IntKind.u64.wrap (IntKind.i64.wrap (i_s10_l6 + j_s11_l6))) (2 ^ (min (Int.toNat (1)) IntKind.u64.bits)))))] _ _ _ (by kernel_rfl) ?_
     refine x_end rfl ?_
     refine k_block ?_
     have hx := some_inj h
     subst hx
     exact k_then ⟨(m6, i_s10_l6, IntKind.i64.wrap (Int.fdiv (IntKind.u64.wrap (IntKind.i64.wrap (i_s10_l6 + j_s11_l6))) (2 ^ (min (Int.toNat (1)) IntKind.u64.bits)))), ⟨rfl, rfl, rfl, rfl, rfl, trivial⟩, ⟨hn6, hev, hms, hfr, hpr, hs_p0, hs_p500, hb_p500⟩, Nat.lt_succ_self _⟩
   replace h := ite_f hb h
   refine c_exit ?_
   refine k_then_exit ?_
   have hx := some_inj h
   subst hx
   have hy := some_inj hn6
   subst hy
   replace h := h6
   refine k_then_exit ?_
   refine k_block_in ?_
   refine k_then ?_
   refine c_norm [(0, .slice a_p0 (p0).length c_p0), (1, Vi p1), (10, Vi i_s10_l6)] ⟨rfl, rfl, rfl, trivial⟩ (fun J => ?_)
   refine c_seq ?_
   refine c_sp ?_
   refine x_pure 2 [(54, Vi p1), (13, Vi p1)] _ _ _ (by kernel_rfl) ?_
   refine x_ek ?_
   refine c_block ?_
   obtain ⟨d17, hd17, h17⟩ := bind_some h
   obtain ⟨m17, hd17⟩ := loop_some hd17
   refine c_loop (loop_rule hmx (σ := Nat × (List Int) × Int) (fun s => match s with | (_, d1_l17, k_s13_l17) => [(0, .slice a_p0 (d1_l17).length c_p0), (10, Vi i_s10_l6), (13, Vi k_s13_l17)]) (fun s w' => match s with | (m, d1_l17, k_s13_l17) => loopN (slices_symMergeCmpFunc_int__L17 i_s10_l6) m (d1_l17, k_s13_l17) = some d17 ∧ Ev (fl [blk a_p0, [b_p500]]) w w' ∧ MS w' [blk a_p0, [b_p500], M] ∧ FR w.heap.size [] ∧ NP (fl [blk a_p0, [b_p500]]) w.heap.size [blk a_p0, [b_p500]] ∧ OwnS (eInt .i64) 3 w' (fl [blk a_p0, [b_p500], M]) a_p0 c_p0 d1_l17 ∧ SlR (eInt .i64) w' (fl [blk a_p0, [b_p500], M]) a_p500 c_p500 p500 ∧ w'.heap[b_p500]? = some (.cells #[.slice a_p500 (p500).length c_p500] 22 (0, 0))) (fun s => s.1) (m17, p0, p1) ⟨rfl, rfl, rfl, trivial⟩ ⟨hd17, hev, hms, hfr, hpr, hs_p0, hs_p500, hb_p500⟩ ?_)
   rintro ⟨m17, d1_l17, k_s13_l17⟩ J wl17 ⟨hn17, hev, hms, hfr, hpr, hs_p0, hs_p500, hb_p500⟩
   rcases m17 with _ | m17
   · exact (loopN_zero hn17).elim
   obtain ⟨t17, h, hn17⟩ := bind_some hn17
   refine c_seq ?_
   refine c_sp ?_
   refine x_pure 4 [(55, Vi k_s13_l17), (56, Vi i_s10_l6), (57, Vi (IntKind.i64.wrap (i_s10_l6 - 1))), (58, .bool (decide (k_s13_l17 < (IntKind.i64.wrap (i_s10_l6 - 1)))))] _ _ _ (by kernel_rfl) ?_
   refine x_ek ?_
   refine c_norm [(0, .slice a_p0 (d1_l17).length c_p0), (10, Vi i_s10_l6), (13, Vi k_s13_l17), (58, .bool (decide (k_s13_l17 < (IntKind.i64.wrap (i_s10_l6 - 1)))))] ⟨rfl, rfl, rfl, rfl, trivial⟩ (fun J => ?_)
   refine c_cond (decide (k_s13_l17 < (IntKind.i64.wrap (i_s10_l6 - 1)))) rfl (fun hb => ?_) (fun hb => ?_)
   · replace h := ite_t hb h
     refine c_skip ?_
     refine k_then ?_
     refine c_seq ?_
     refine c_block ?_
     refine c_drawn (blk a_p0) [(0, true), (1, true), (2, false), (3, false), (4, false), (5, true), (6, true), (7, true), (8, true), (9, true), (10, true), (11, true), (12, true), (13, true), (14, true), (15, false), (16, true), (17, true)] _ (by kernel_rfl) rfl ?_
     have hst := Stp.ext (ls := [blk a_p0, [b_p500], M]) (Ev.drew wl17)
     replace hs_p0 := hs_p0.step hst (Ev.drew wl17) nn2
     replace hb_p500 := (Ev.drew wl17).box hb_p500 nn
     replace hs_p500 := hs_p500.step hst
     replace hms := hms.ev (Ev.drew wl17)
     replace hev := hev.ext (Ev.drew wl17)
     refine x_pure 8 [(61, .slice a_p0 (d1_l17).length c_p0), (62, Vi k_s13_l17), (63, .slice a_p0 (d1_l17).length c_p0), (64, Vi k_s13_l17), (65, Vi (IntKind.i64.wrap (k_s13_l17 + 1))), (66, .slice a_p0 (d1_l17).length c_p0), (67, Vi k_s13_l17), (68, Vi (IntKind.i64.wrap (k_s13_l17 + 1)))] _ _ _ (by kernel_rfl) ?_
     obtain ⟨x19, hx19, h⟩ := bind_some h
     obtain ⟨g19, cs19, ha19, hr19, hc19, hR⟩ := own_index (Mo := []) tsl22 hs_p0 hx19
     obtain rfl := hR
     refine x_indexAddr (xv := .slice a_p0 (d1_l17).length c_p0) (yv := Vi (IntKind.i64.wrap (k_s13_l17 + 1))) (.pointer (some ⟨g19, (Int.toNat (IntKind.i64.wrap (k_s13_l17 + 1))) * (eInt .i64).n, none⟩)) rfl rfl rfl rfl hr19 ?_
     refine x_load (xv := .pointer (some ⟨g19, (Int.toNat (IntKind.i64.wrap (k_s13_l17 + 1))) * (eInt .i64).n, none⟩)) (Vi x19) rfl rfl rfl (reads_cell0 tcell3 hc19 (fun _ h => by cases h)) ?_
     refine x_pure 2 [(71, .slice a_p0 (d1_l17).length c_p0), (72, Vi k_s13_l17)] _ _ _ (by kernel_rfl) ?_
     obtain ⟨x22, hx22, h⟩ := bind_some h
     obtain ⟨g22, cs22, ha22, hr22, hc22, hR⟩ := own_index (Mo := []) tsl22 hs_p0 hx22
     obtain rfl := hR
     refine x_indexAddr (xv := .slice a_p0 (d1_l17).length c_p0) (yv := Vi k_s13_l17) (.pointer (some ⟨g22, (Int.toNat k_s13_l17) * (eInt .i64).n, none⟩)) rfl rfl rfl rfl hr22 ?_
     refine x_load (xv := .pointer (some ⟨g22, (Int.toNat k_s13_l17) * (eInt .i64).n, none⟩)) (Vi x22) rfl rfl rfl (reads_cell0 tcell3 hc22 (fun _ h => by cases h)) ?_
     obtain ⟨x25, hx25, h⟩ := bind_some h
     obtain ⟨g25, cs25, ha25, hr25, hc25, hR⟩ := own_index (Mo := []) tsl22 hs_p0 hx25
     obtain rfl := hR
     refine x_indexAddr (xv := .slice a_p0 (d1_l17).length c_p0) (yv := Vi k_s13_l17) (.pointer (some ⟨g25, (Int.toNat k_s13_l17) * (eInt .i64).n, none⟩)) rfl rfl rfl rfl hr25 ?_
     have hxs27_20 := hx19
     have hxs27_23 := hx22
     obtain ⟨w29, hr29, he29, ho29⟩ := own_storeE ha25 (y := x19) 0 (Vi x19) tcell3 hs_p0 (mem_flat 0 rfl) hx25 rfl rfl (fun _ _ _ hR => set_int hR)
     refine x_store w29 (xv := .pointer (some ⟨g25, (Int.toNat k_s13_l17) * (eInt .i64).n, none⟩)) (yv := Vi x19) rfl rfl rfl rfl hr29 ?_
     refine ⟨.inr he29, ?_⟩
     have hst := Stp.ev' (ls := [blk a_p0, [b_p500], M]) he29 (mem_flat 0 rfl)
     replace hb_p500 := he29.box hb_p500 (hms.apart 1 0 rfl rfl rfl _ mem1)
     replace hs_p500 := hs_p500.step hst
     replace hms := hms.ev he29
     replace hev := hev.then he29 (hpr.at 0 rfl)
     replace hs_p0 := ho29
     have hsl : (Value.slice a_p0 (d1_l17).length c_p0) = (Value.slice a_p0 ((d1_l17.set (Int.toNat k_s13_l17) x19)).length c_p0) := by first | (rw [List.length_set]; done) | simp only [List.length_set]
     try rw [hsl]
     clear hsl
     obtain ⟨_, hxs27_20⟩ : ∃ y, idx (d1_l17.set (Int.toNat k_s13_l17) x19) (IntKind.i64.wrap (k_s13_l17 + 1)) = some y := idx_set_any hxs27_20 _ _
     obtain ⟨_, hxs27_23⟩ : ∃ y, idx (d1_l17.set (Int.toNat k_s13_l17) x19) k_s13_l17 = some y := idx_set_any hxs27_23 _ _
     obtain ⟨x30, hx30, h⟩ := bind_some h
     obtain ⟨g30, cs30, ha30, hr30, hc30, hR⟩ := own_index (Mo := []) tsl22 hs_p0 hx30
     obtain rfl := hR
     refine x_indexAddr (xv := .slice a_p0 ((d1_l17.set (Int.toNat k_s13_l17) x19)).length c_p0) (yv := Vi (IntKind.i64.wrap (k_s13_l17 + 1))) (.pointer (some ⟨g30, (Int.toNat (IntKind.i64.wrap (k_s13_l17 + 1))) * (eInt .i64).n, none⟩)) rfl rfl rfl rfl hr30 ?_
     have hxs32_20 := hxs27_20
     have hxs32_23 := hxs27_23
     obtain ⟨w34, hr34, he34, ho34⟩ := own_storeE ha30 (y := x22) 0 (Vi x22) tcell3 hs_p0 (mem_flat 0 rfl) hx30 rfl rfl (fun _ _ _ hR => set_int hR)
     refine x_store w34 (xv := .pointer (some ⟨g30, (Int.toNat (IntKind.i64.wrap (k_s13_l17 + 1))) * (eInt .i64).n, none⟩)) (yv := Vi x22) rfl rfl rfl rfl hr34 ?_
     refine inl1 ?_
     have hst := Stp.ev' (ls := [blk a_p0, [b_p500], M]) he34 (mem_flat 0 rfl)
     replace hb_p500 := he34.box hb_p500 (hms.apart 1 0 rfl rfl rfl _ mem1)
     replace hs_p500 := hs_p500.step hst
     replace hms := hms.ev he34
     replace hev := hev.then he34 (hpr.at 0 rfl)
     replace hs_p0 := ho34
     have hsl : (Value.slice a_p0 ((d1_l17.set (Int.toNat k_s13_l17) x19)).length c_p0) = (Value.slice a_p0 (((d1_l17.set (Int.toNat k_s13_l17) x19).set (Int.toNat (IntKind.i64.wrap (k_s13_l17 + 1))) x22)).length c_p0) := by first | (rw [List.length_set]; done) | simp only [List.length_set]
     try rw [hsl]
     clear hsl
     obtain ⟨_, hxs32_20⟩ : ∃ y, idx ((d1_l17.set (Int.toNat k_s13_l17) x19).set (Int.toNat (IntKind.i64.wrap (k_s13_l17 + 1))) x22) (IntKind.i64.wrap (k_s13_l17 + 1)) = some y := idx_set_any hxs32_20 _ _
     obtain ⟨_, hxs32_23⟩ : ∃ y, idx ((d1_l17.set (Int.toNat k_s13_l17) x19).set (Int.toNat (IntKind.i64.wrap (k_s13_l17 + 1))) x22) k_s13_l17 = some y := idx_set_any hxs32_23 _ _
     refine x_end rfl ?_
     refine k_block ?_
     refine k_then ?_
     refine c_norm [(0, .slice a_p0 (((d1_l17.set (Int.toNat k_s13_l17) x19).set (Int.toNat (IntKind.i64.wrap (k_s13_l17 + 1))) x22)).length c_p0), (10, Vi i_s10_l6), (13, Vi k_s13_l17)] ⟨rfl, rfl, rfl, trivial⟩ (fun J => ?_)
     refine c_plain ?_
     refine x_pure 3 [(59, Vi k_s13_l17), (60, Vi (IntKind.i64.wrap (k_s13_l17 + 1))), (13, Vi (IntKind.i64.wrap (k_s13_l17 + 1)))] _ _ _ (by kernel_rfl) ?_
     refine x_end rfl ?_
     have hx := some_inj h
     subst hx
     exact k_then ⟨(m17, ((d1_l17.set (Int.toNat k_s13_l17) x19).set (Int.toNat (IntKind.i64.wrap (k_s13_l17 + 1))) x22), IntKind.i64.wrap (k_s13_l17 + 1)), ⟨rfl, rfl, rfl, trivial⟩, ⟨hn17, hev, hms, hfr, hpr, hs_p0, hs_p500, hb_p500⟩, Nat.lt_succ_self _⟩
   replace h := ite_f hb h
   refine c_exit ?_
   refine k_then_exit ?_
   have hx := some_inj h
   subst hx
   have hy := some_inj hn17
   subst hy
   replace h := h17
   refine k_then_exit ?_
   refine k_block_in ?_
   refine k_then ?_
   refine c_norm [] trivial (fun J => ?_)
   refine c_ret ?_
   refine k_then_ret ?_
   refine r_ret (r_vals [] trivial ?_)
   have hx := some_inj h
   subst hx
   have hmr : MS wl17 [blk a_p0, [b_p500], M] := hms.pick [some 0, some 1, some 2] _ rfl
   have hsu : ∀ x ∈ fl [blk a_p0, [b_p500], M], x ∈ fl [blk a_p0, [b_p500], M] := pick_sub [some 0, some 1, some 2] _ rfl
   have hfe : FR w.heap.size [] := hfr.pick [] _ rfl
   exact ⟨rfl, hev, hs_p0.sub hsu, hb_p500, hmr, hfe, (NP.cons (hpr.at 0 rfl) (NP.cons (hpr.at 1 rfl) (NP.nil _ _)))⟩
 replace h := ite_f hb h
 refine c_skip ?_
 refine k_then ?_
 refine c_seq ?_
 refine c_sp ?_
 refine x_pure 4 [(77, Vi p3), (78, Vi p2), (79, Vi (IntKind.i64.wrap (p3 - p2))), (80, .bool ((IntKind.i64.wrap (p3 - p2)) == 1))] _ _ _ (by kernel_rfl) ?_
 refine x_ek ?_
 refine c_cond ((IntKind.i64.wrap (p3 - p2)) == 1) rfl (fun hb => ?_) (fun hb => ?_)
 · replace h := ite_t hb h
   refine c_sp ?_
   refine x_pure 2 [(81, Vi p1), (14, Vi p1)] _ _ _ (by kernel_rfl) ?_
   refine x_ek ?_
   refine c_sp ?_
   refine x_pure 2 [(82, Vi p2), (15, Vi p2)] _ _ _ (by kernel_rfl) ?_
   refine x_ek ?_
   refine c_norm [(0, .slice a_p0 (p0).length c_p0), (2, Vi p2), (4, (.func (.func 30) #[] #[Vp b_p500 0])), (14, Vi p1), (15, Vi p2)] ⟨rfl, rfl, rfl, rfl, rfl, trivial⟩ (fun J => ?_)
   refine c_seq ?_
   refine c_block ?_
   obtain ⟨d37, hd37, h37⟩ := bind_some h
   obtain ⟨m37, hd37⟩ := loop_some hd37
   refine c_loop (loop_rule hmx (σ := Nat × Int × Int) (fun s => match s with | (_, i_s14_l37, j_s15_l37) => [(0, .slice a_p0 (p0).length c_p0), (2, Vi p2), (4, (.func (.func 30) #[] #[Vp b_p500 0])), (14, Vi i_s14_l37), (15, Vi j_s15_l37)]) (fun s w' => match s with | (m, i_s14_l37, j_s15_l37) => loopN (slices_symMergeCmpFunc_int__L37 p0 p2 p500) m (i_s14_l37, j_s15_l37) = some d37 ∧ Ev (fl [blk a_p0, [b_p500]]) w w' ∧ MS w' [blk a_p0, [b_p500], M] ∧ FR w.heap.size [] ∧ NP (fl [blk a_p0, [b_p500]]) w.heap.size [blk a_p0, [b_p500]] ∧ OwnS (eInt .i64) 3 w' (fl [blk a_p0, [b_p500], M]) a_p0 c_p0 p0 ∧ SlR (eInt .i64) w' (fl [blk a_p0, [b_p500], M]) a_p500 c_p500 p500 ∧ w'.heap[b_p500]? = some (.cells #[.slice a_p500 (p500).length c_p500] 22 (0, 0))) (fun s => s.1) (m37, p1, p2) ⟨rfl, rfl, rfl, rfl, rfl, trivial⟩ ⟨hd37, hev, hms, hfr, hpr, hs_p0, hs_p500, hb_p500⟩ ?_)
   rintro ⟨m37, i_s14_l37, j_s15_l37⟩ J wl37 ⟨hn37, hev, hms, hfr, hpr, hs_p0, hs_p500, hb_p500⟩
   rcases m37 with _ | m37
   · exact (loopN_zero hn37).elim
   obtain ⟨t37, h, hn37⟩ := bind_some hn37
   refine c_seq ?_
   refine c_sp ?_
   refine x_pure 3 [(83, Vi i_s14_l37), (84, Vi j_s15_l37), (85, .bool (decide (i_s14_l37 < j_s15_l37)))] _ _ _ (by kernel_rfl) ?_
   refine x_ek ?_
   refine c_norm [(0, .slice a_p0 (p0).length c_p0), (2, Vi p2), (4, (.func (.func 30) #[] #[Vp b_p500 0])), (14, Vi i_s14_l37), (15, Vi j_s15_l37), (85, .bool (decide (i_s14_l37 < j_s15_l37)))] ⟨rfl, rfl, rfl, rfl, rfl, rfl, trivial⟩ (fun J => ?_)
   refine c_cond (decide (i_s14_l37 < j_s15_l37)) rfl (fun hb => ?_) (fun hb => ?_)
   · replace h := ite_t hb h
     refine c_skip ?_
     refine k_then ?_
     refine c_block ?_
     refine c_sp ?_
     refine x_pure 3 [(86, Vi i_s14_l37), (87, Vi j_s15_l37), (88, Vi (IntKind.i64.wrap (i_s14_l37 + j_s15_l37)))] _ _ _ (by kernel_rfl) ?_
     refine x_convert (.int .u64 (IntKind.u64.wrap (IntKind.i64.wrap (i_s14_l37 + j_s15_l37)))) _ rfl rfl rfl (tcv3_50 (IntKind.i64.wrap (i_s14_l37 + j_s15_l37)) _) ?_
     refine inl1 ?_
     refine x_pure 1 [(90, .int .u64 (Int.fdiv (IntKind.u64.wrap (IntKind.i64.wrap (i_s14_l37 + j_s15_l37))) (2 ^ (min (Int.toNat (1)) IntKind.u64.bits))))] _ _ _ (by kernel_rfl) ?_
     refine x_convert (Vi (IntKind.i64.wrap (Int.fdiv (IntKind.u64.wrap (IntKind.i64.wrap (i_s14_l37 + j_s15_l37))) (2 ^ (min (Int.toNat (1)) IntKind.u64.bits))))) _ rfl rfl rfl (tcv50_3 (Int.fdiv (IntKind.u64.wrap (IntKind.i64.wrap (i_s14_l37 + j_s15_l37))) (2 ^ (min (Int.toNat (1)) IntKind.u64.bits))) _) ?_
     refine inl1 ?_
     refine x_pure 1 [(16, Vi (IntKind.i64.wrap (Int.fdiv (IntKind.u64.wrap (IntKind.i64.wrap (i_s14_l37 + j_s15_l37))) (2 ^ (min (Int.toNat (1)) IntKind.u64.bits)))))] _ _ _ (by kernel_rfl) ?_
     refine x_ek ?_
     refine c_seq ?_
     refine c_drawn [] [(0, false), (1, false), (2, false), (3, false), (4, false), (5, false), (6, false), (7, false), (8, false), (9, true), (10, false), (11, false)] _ (by kernel_rfl) rfl ?_
     have hst := Stp.ext (ls := [blk a_p0, [b_p500], M]) (Ev.drew wl37)
     replace hs_p0 := hs_p0.step hst (Ev.drew wl37) nn2
     replace hb_p500 := (Ev.drew wl37).box hb_p500 nn
     replace hs_p500 := hs_p500.step hst
     replace hms := hms.ev (Ev.drew wl37)
     replace hev := hev.ext (Ev.drew wl37)
     refine x_pure 3 [(92, (.func (.func 30) #[] #[Vp b_p500 0])), (93, .slice a_p0 (p0).length c_p0), (94, Vi p2)] _ _ _ (by kernel_rfl) ?_
     obtain ⟨x39, hx39, h⟩ := bind_some h
     obtain ⟨g39, cs39, ha39, hr39, hc39, hR⟩ := own_index (Mo := []) tsl22 hs_p0 hx39
     obtain rfl := hR
     refine x_indexAddr (xv := .slice a_p0 (p0).length c_p0) (yv := Vi p2) (.pointer (some ⟨g39, (Int.toNat p2) * (eInt .i64).n, none⟩)) rfl rfl rfl rfl hr39 ?_
     refine x_load (xv := .pointer (some ⟨g39, (Int.toNat p2) * (eInt .i64).n, none⟩)) (Vi x39) rfl rfl rfl (reads_cell0 tcell3 hc39 (fun _ h => by cases h)) ?_
     refine x_pure 2 [(97, .slice a_p0 (p0).length c_p0), (98, Vi (IntKind.i64.wrap (Int.fdiv (IntKind.u64.wrap (IntKind.i64.wrap (i_s14_l37 + j_s15_l37))) (2 ^ (min (Int.toNat (1)) IntKind.u64.bits)))))] _ _ _ (by kernel_rfl) ?_
     obtain ⟨x42, hx42, h⟩ := bind_some h
     obtain ⟨g42, cs42, ha42, hr42, hc42, hR⟩ := own_index (Mo := []) tsl22 hs_p0 hx42
     obtain rfl := hR
     refine x_indexAddr (xv := .slice a_p0 (p0).length c_p0) (yv := Vi (IntKind.i64.wrap (Int.fdiv (IntKind.u64.wrap (IntKind.i64.wrap (i_s14_l37 + j_s15_l37))) (2 ^ (min (Int.toNat (1)) IntKind.u64.bits))))) (.pointer (some ⟨g42, (Int.toNat (IntKind.i64.wrap (Int.fdiv (IntKind.u64.wrap (IntKind.i64.wrap (i_s14_l37 + j_s15_l37))) (2 ^ (min (Int.toNat (1)) IntKind.u64.bits))))) * (eInt .i64).n, none⟩)) rfl rfl rfl rfl hr42 ?_
     refine x_load (xv := .pointer (some ⟨g42, (Int.toNat (IntKind.i64.wrap (Int.fdiv (IntKind.u64.wrap (IntKind.i64.wrap (i_s14_l37 + j_s15_l37))) (2 ^ (min (Int.toNat (1)) IntKind.u64.bits))))) * (eInt .i64).n, none⟩)) (Vi x42) rfl rfl rfl (reads_cell0 tcell3 hc42 (fun _ h => by cases h)) ?_
     obtain ⟨x46, hx, h⟩ := bind_some h
     have hpk : MS (wl37).drew ([[b_p500]] ++ [blk a_p0, M]) := hms.pick [some 1, some 0, some 2] _ rfl
     have hsb0 : ∀ x ∈ fl ([[b_p500]] ++ [blk a_p0, M]), x ∈ fl [blk a_p0, [b_p500], M] := pick_sub [some 1, some 0, some 2] _ rfl
     have hsb : ∀ x ∈ fl ([[b_p500]] ++ [(fl [blk a_p0, M])]), x ∈ fl [blk a_p0, [b_p500], M] := fun x hx => hsb0 x (fl_unfold x hx)
     have hcall := assign_order_1_w x39 x42 b_p500 a_p500 c_p500 p500 _ (wl37).drew (fl [blk a_p0, M]) (hpk.fold (P := [[b_p500]])) (hs_p500.sub hsb) hb_p500 hx
     refine x_call 30 #[] #[Vp b_p500 0] [Vi x39, Vi x42, Vp b_p500 0] _ rfl rfl rfl rfl hcall ?_
     rintro v w47 ⟨rfl, he47, hp47_0⟩
     clear hcall hx
     refine inl1 ?_
     have hpk2 : MS (wl37).drew ([[b_p500]] ++ [blk a_p0, M]) := hms.pick [some 1, some 0, some 2] _ rfl
     have hsb2 : ∀ x ∈ fl ([[b_p500]] ++ [blk a_p0, M]), x ∈ fl [blk a_p0, [b_p500], M] := pick_sub [some 1, some 0, some 2] _ rfl
     have hst0 := Stp.call (LS := [blk a_p0, [b_p500], M]) (res := []) (par := [[b_p500]]) (R := [blk a_p0, M]) he47 (fun b hb => hsb2 b (fl_left' (P := [[b_p500]]) b hb)) (FR.nil _) (NP.init _ _) (fun x hx => hsb2 x (fl_right' (P := [[b_p500]]) x hx))
     have hsn : ∀ x ∈ fl [blk a_p0, [b_p500], M], x ∈ fl ([] ++ ([[b_p500]] ++ [blk a_p0, M])) := pick_sub [some 1, some 0, some 2] _ rfl
     have hst := hst0.res hsn
     replace hs_p0 := hs_p0.step hst he47 (MS.outs (P := [[b_p500]]) hpk2 0 rfl)
     replace hs_p500 := hs_p500.step hst
     replace hms := hms.ev he47
     have hPf : ∀ b ∈ fl [[b_p500]], b ∈ (fl [blk a_p0, [b_p500]]) ∨ w.heap.size ≤ b := NP.mem (ls := [[b_p500]]) (hpr.pick [some 1] _ rfl)
     replace hev := hev.then he47 hPf
     replace hb_p500 := hp47_0
     clear hpk hsb hsb0 hpk2 hsb2 hst0 hsn hst
     refine x_pure 2 [(102, .bool (decide (x46 < 0))), (103, .bool (!(decide (x46 < 0))))] _ _ _ (by kernel_rfl) ?_
     refine x_ek ?_
     refine c_norm [(0, .slice a_p0 (p0).length c_p0), (2, Vi p2), (4, (.func (.func 30) #[] #[Vp b_p500 0])), (14, Vi i_s14_l37), (15, Vi j_s15_l37), (16, Vi (IntKind.i64.wrap (Int.fdiv (IntKind.u64.wrap (IntKind.i64.wrap (i_s14_l37 + j_s15_l37))) (2 ^ (min (Int.toNat (1)) IntKind.u64.bits))))), (103, .bool (!(decide (x46 < 0))))] ⟨rfl, rfl, rfl, rfl, rfl, rfl, rfl, trivial⟩ (fun J => ?_)
     refine c_cond (!(decide (x46 < 0))) rfl (fun hb => ?_) (fun hb => ?_)
     · replace h := ite_t hb h
       refine c_plain ?_
       refine x_pure 3 [(104, Vi (IntKind.i64.wrap (Int.fdiv (IntKind.u64.wrap (IntKind.i64.wrap (i_s14_l37 + j_s15_l37))) (2 ^ (min (Int.toNat (1)) IntKind.u64.bits))))), (105, Vi (IntKind.i64.wrap ((IntKind.i64.wrap (Int.fdiv (IntKind.u64.wrap (IntKind.i64.wrap (i_s14_l37 + j_s15_l37))) (2 ^ (min (Int.toNat (1)) IntKind.u64.bits)))) + 1))), (14, Vi (IntKind.i64.wrap ((IntKind.i64.wrap (Int.fdiv (IntKind.u64.wrap (IntKind.i64.wrap (i_s14_l37 + j_s15_l37))) (2 ^ (min (Int.toNat (1)) IntKind.u64.bits)))) + 1)))] _ _ _ (by kernel_rfl) ?_
       refine x_end rfl ?_
       refine k_block ?_
       have hx := some_inj h
       subst hx
       exact k_then ⟨(m37, IntKind.i64.wrap ((IntKind.i64.wrap (Int.fdiv (IntKind.u64.wrap (IntKind.i64.wrap (i_s14_l37 + j_s15_l37))) (2 ^ (min (Int.toNat (1)) IntKind.u64.bits)))) + 1), j_s15_l37), ⟨rfl, rfl, rfl, rfl, rfl, trivial⟩, ⟨hn37, hev, hms, hfr, hpr, hs_p0, hs_p500, hb_p500⟩, Nat.lt_succ_self _⟩
     replace h := ite_f hb h
     refine c_plain ?_
     refine x_pure 2 [(106, Vi (IntKind.i64.wrap (Int.fdiv (IntKind.u64.wrap (IntKind.i64.wrap (i_s14_l37 + j_s15_l37))) (2 ^ (min (Int.toNat (1)) IntKind.u64.bits))))), (15, Vi (IntKind.i64.wrap (Int.fdiv (IntKind.u64.wrap (IntKind.i64.wrap (i_s14_l37 + j_s15_l37))) (2 ^ (min (Int.toNat (1)) IntKind.u64.bits)))))] _ _ _ (by kernel_rfl) ?_
     refine x_end rfl ?_
     refine k_block ?_
     have hx := some_inj h
     subst hx
     exact k_then ⟨(m37, i_s14_l37, IntKind.i64.wrap (Int.fdiv (IntKind.u64.wrap (IntKind.i64.wrap (i_s14_l37 + j_s15_l37))) (2 ^ (min (Int.toNat (1)) IntKind.u64.bits)))), ⟨rfl, rfl, rfl, rfl, rfl, trivial⟩, ⟨hn37, hev, hms, hfr, hpr, hs_p0, hs_p500, hb_p500⟩, Nat.lt_succ_self _⟩
   replace h := ite_f hb h
   refine c_exit ?_
   refine k_then_exit ?_
   have hx := some_inj h
   subst hx
   have hy := some_inj hn37
   subst hy
   replace h := h37
   refine k_then_exit ?_
   refine k_block_in ?_
   refine k_then ?_
   refine c_norm [(0, .slice a_p0 (p0).length c_p0), (2, Vi p2), (14, Vi i_s14_l37)] ⟨rfl, rfl, rfl, trivial⟩ (fun J => ?_)
   refine c_seq ?_
   refine c_sp ?_
   refine x_pure 2 [(107, Vi p2), (17, Vi p2)] _ _ _ (by kernel_rfl) ?_
   refine x_ek ?_
   refine c_block ?_
   obtain ⟨d48, hd48, h48⟩ := bind_some h
   obtain ⟨m48, hd48⟩ := loop_some hd48
   refine c_loop (loop_rule hmx (σ := Nat × (List Int) × Int) (fun s => match s with | (_, d1_l48, k_s17_l48) => [(0, .slice a_p0 (d1_l48).length c_p0), (14, Vi i_s14_l37), (17, Vi k_s17_l48)]) (fun s w' => match s with | (m, d1_l48, k_s17_l48) => loopN (slices_symMergeCmpFunc_int__L48 i_s14_l37) m (d1_l48, k_s17_l48) = some d48 ∧ Ev (fl [blk a_p0, [b_p500]]) w w' ∧ MS w' [blk a_p0, [b_p500], M] ∧ FR w.heap.size [] ∧ NP (fl [blk a_p0, [b_p500]]) w.heap.size [blk a_p0, [b_p500]] ∧ OwnS (eInt .i64) 3 w' (fl [blk a_p0, [b_p500], M]) a_p0 c_p0 d1_l48 ∧ SlR (eInt .i64) w' (fl [blk a_p0, [b_p500], M]) a_p500 c_p500 p500 ∧ w'.heap[b_p500]? = some (.cells #[.slice a_p500 (p500).length c_p500] 22 (0, 0))) (fun s => s.1) (m48, p0, p2) ⟨rfl, rfl, rfl, trivial⟩ ⟨hd48, hev, hms, hfr, hpr, hs_p0, hs_p500, hb_p500⟩ ?_)
   rintro ⟨m48, d1_l48, k_s17_l48⟩ J wl48 ⟨hn48, hev, hms, hfr, hpr, hs_p0, hs_p500, hb_p500⟩
   rcases m48 with _ | m48
   · exact (loopN_zero hn48).elim
   obtain ⟨t48, h, hn48⟩ := bind_some hn48
   refine c_seq ?_
   refine c_sp ?_
   refine x_pure 3 [(108, Vi k_s17_l48), (109, Vi i_s14_l37), (110, .bool (decide (k_s17_l48 > i_s14_l37)))] _ _ _ (by kernel_rfl) ?_
   refine x_ek ?_
   refine c_norm [(0, .slice a_p0 (d1_l48).length c_p0), (14, Vi i_s14_l37), (17, Vi k_s17_l48), (110, .bool (decide (k_s17_l48 > i_s14_l37)))] ⟨rfl, rfl, rfl, rfl, trivial⟩ (fun J => ?_)
   refine c_cond (decide (k_s17_l48 > i_s14_l37)) rfl (fun hb => ?_) (fun hb => ?_)
   · replace h := ite_t hb h
     refine c_skip ?_
     refine k_then ?_
     refine c_seq ?_
     refine c_block ?_
     refine c_drawn (blk a_p0) [(0, true), (1, true), (2, false), (3, false), (4, false), (5, true), (6, true), (7, true), (8, true), (9, true), (10, true), (11, true), (12, true), (13, true), (14, true), (15, false), (16, true), (17, true)] _ (by kernel_rfl) rfl ?_
     have hst := Stp.ext (ls := [blk a_p0, [b_p500], M]) (Ev.drew wl48)
     replace hs_p0 := hs_p0.step hst (Ev.drew wl48) nn2
     replace hb_p500 := (Ev.drew wl48).box hb_p500 nn
     replace hs_p500 := hs_p500.step hst
     replace hms := hms.ev (Ev.drew wl48)
     replace hev := hev.ext (Ev.drew wl48)
     refine x_pure 8 [(113, .slice a_p0 (d1_l48).length c_p0), (114, Vi k_s17_l48), (115, .slice a_p0 (d1_l48).length c_p0), (116, Vi k_s17_l48), (117, Vi (IntKind.i64.wrap (k_s17_l48 - 1))), (118, .slice a_p0 (d1_l48).length c_p0), (119, Vi k_s17_l48), (120, Vi (IntKind.i64.wrap (k_s17_l48 - 1)))] _ _ _ (by kernel_rfl) ?_
     obtain ⟨x50, hx50, h⟩ := bind_some h
     obtain ⟨g50, cs50, ha50, hr50, hc50, hR⟩ := own_index (Mo := []) tsl22 hs_p0 hx50
     obtain rfl := hR
     refine x_indexAddr (xv := .slice a_p0 (d1_l48).length c_p0) (yv := Vi (IntKind.i64.wrap (k_s17_l48 - 1))) (.pointer (some ⟨g50, (Int.toNat (IntKind.i64.wrap (k_s17_l48 - 1))) * (eInt .i64).n, none⟩)) rfl rfl rfl rfl hr50 ?_
     refine x_load (xv := .pointer (some ⟨g50, (Int.toNat (IntKind.i64.wrap (k_s17_l48 - 1))) * (eInt .i64).n, none⟩)) (Vi x50) rfl rfl rfl (reads_cell0 tcell3 hc50 (fun _ h => by cases h)) ?_
     refine x_pure 2 [(123, .slice a_p0 (d1_l48).length c_p0), (124, Vi k_s17_l48)] _ _ _ (by kernel_rfl) ?_
     obtain ⟨x53, hx53, h⟩ := bind_some h
     obtain ⟨g53, cs53, ha53, hr53, hc53, hR⟩ := own_index (Mo := []) tsl22 hs_p0 hx53
     obtain rfl := hR
     refine x_indexAddr (xv := .slice a_p0 (d1_l48).length c_p0) (yv := Vi k_s17_l48) (.pointer (some ⟨g53, (Int.toNat k_s17_l48) * (eInt .i64).n, none⟩)) rfl rfl rfl rfl hr53 ?_
     refine x_load (xv := .pointer (some ⟨g53, (Int.toNat k_s17_l48) * (eInt .i64).n, none⟩)) (Vi x53) rfl rfl rfl (reads_cell0 tcell3 hc53 (fun _ h => by cases h)) ?_
     obtain ⟨x56, hx56, h⟩ := bind_some h
     obtain ⟨g56, cs56, ha56, hr56, hc56, hR⟩ := own_index (Mo := []) tsl22 hs_p0 hx56
     obtain rfl := hR
     refine x_indexAddr (xv := .slice a_p0 (d1_l48).length c_p0) (yv := Vi k_s17_l48) (.pointer (some ⟨g56, (Int.toNat k_s17_l48) * (eInt .i64).n, none⟩)) rfl rfl rfl rfl hr56 ?_
     have hxs58_51 := hx50
     have hxs58_54 := hx53
     obtain ⟨w60, hr60, he60, ho60⟩ := own_storeE ha56 (y := x50) 0 (Vi x50) tcell3 hs_p0 (mem_flat 0 rfl) hx56 rfl rfl (fun _ _ _ hR => set_int hR)
     refine x_store w60 (xv := .pointer (some ⟨g56, (Int.toNat k_s17_l48) * (eInt .i64).n, none⟩)) (yv := Vi x50) rfl rfl rfl rfl hr60 ?_
     refine ⟨.inr he60, ?_⟩
     have hst := Stp.ev' (ls := [blk a_p0, [b_p500], M]) he60 (mem_flat 0 rfl)
     replace hb_p500 := he60.box hb_p500 (hms.apart 1 0 rfl rfl rfl _ mem1)
     replace hs_p500 := hs_p500.step hst
     replace hms := hms.ev he60
     replace hev := hev.then he60 (hpr.at 0 rfl)
     replace hs_p0 := ho60
     have hsl : (Value.slice a_p0 (d1_l48).length c_p0) = (Value.slice a_p0 ((d1_l48.set (Int.toNat k_s17_l48) x50)).length c_p0) := by first | (rw [List.length_set]; done) | simp only [List.length_set]
     try rw [hsl]
     clear hsl
     obtain ⟨_, hxs58_51⟩ : ∃ y, idx (d1_l48.set (Int.toNat k_s17_l48) x50) (IntKind.i64.wrap (k_s17_l48 - 1)) = some y := idx_set_any hxs58_51 _ _
     obtain ⟨_, hxs58_54⟩ : ∃ y, idx (d1_l48.set (Int.toNat k_s17_l48) x50) k_s17_l48 = some y := idx_set_any hxs58_54 _ _
     obtain ⟨x61, hx61, h⟩ := bind_some h
     obtain ⟨g61, cs61, ha61, hr61, hc61, hR⟩ := own_index (Mo := []) tsl22 hs_p0 hx61
     obtain rfl := hR
     refine x_indexAddr (xv := .slice a_p0 ((d1_l48.set (Int.toNat k_s17_l48) x50)).length c_p0) (yv := Vi (IntKind.i64.wrap (k_s17_l48 - 1))) (.pointer (some ⟨g61, (Int.toNat (IntKind.i64.wrap (k_s17_l48 - 1))) * (eInt .i64).n, none⟩)) rfl rfl rfl rfl hr61 ?_
     have hxs63_51 := hxs58_51
     have hxs63_54 := hxs58_54
     obtain ⟨w65, hr65, he65, ho65⟩ := own_storeE ha61 (y := x53) 0 (Vi x53) tcell3 hs_p0 (mem_flat 0 rfl) hx61 rfl rfl (fun _ _ _ hR => set_int hR)
     refine x_store w65 (xv := .pointer (some ⟨g61, (Int.toNat (IntKind.i64.wrap (k_s17_l48 - 1))) * (eInt .i64).n, none⟩)) (yv := Vi x53) rfl rfl rfl rfl hr65 ?_
     refine inl1 ?_
     have hst := Stp.ev' (ls := [blk a_p0, [b_p500], M]) he65 (mem_flat 0 rfl)
     replace hb_p500 := he65.box hb_p500 (hms.apart 1 0 rfl rfl rfl _ mem1)
     replace hs_p500 := hs_p500.step hst
     replace hms := hms.ev he65
     replace hev := hev.then he65 (hpr.at 0 rfl)
     replace hs_p0 := ho65
     have hsl : (Value.slice a_p0 ((d1_l48.set (Int.toNat k_s17_l48) x50)).length c_p0) = (Value.slice a_p0 (((d1_l48.set (Int.toNat k_s17_l48) x50).set (Int.toNat (IntKind.i64.wrap (k_s17_l48 - 1))) x53)).length c_p0) := by first | (rw [List.length_set]; done) | simp only [List.length_set]
     try rw [hsl]
     clear hsl
     obtain ⟨_, hxs63_51⟩ : ∃ y, idx ((d1_l48.set (Int.toNat k_s17_l48) x50).set (Int.toNat (IntKind.i64.wrap (k_s17_l48 - 1))) x53) (IntKind.i64.wrap (k_s17_l48 - 1)) = some y := idx_set_any hxs63_51 _ _
     obtain ⟨_, hxs63_54⟩ : ∃ y, idx ((d1_l48.set (Int.toNat k_s17_l48) x50).set (Int.toNat (IntKind.i64.wrap (k_s17_l48 - 1))) x53) k_s17_l48 = some y := idx_set_any hxs63_54 _ _
     refine x_end rfl ?_
     refine k_block ?_
     refine k_then ?_
     refine c_norm [(0, .slice a_p0 (((d1_l48.set (Int.toNat k_s17_l48) x50).set (Int.toNat (IntKind.i64.wrap (k_s17_l48 - 1))) x53)).length c_p0), (14, Vi i_s14_l37), (17, Vi k_s17_l48)] ⟨rfl, rfl, rfl, trivial⟩ (fun J => ?_)
     refine c_plain ?_
     refine x_pure 3 [(111, Vi k_s17_l48), (112, Vi (IntKind.i64.wrap (k_s17_l48 - 1))), (17, Vi (IntKind.i64.wrap (k_s17_l48 - 1)))] _ _ _ (by kernel_rfl) ?_
     refine x_end rfl ?_
     have hx := some_inj h
     subst hx
     exact k_then ⟨(m48, ((d1_l48.set (Int.toNat k_s17_l48) x50).set (Int.toNat (IntKind.i64.wrap (k_s17_l48 - 1))) x53), IntKind.i64.wrap (k_s17_l48 - 1)), ⟨rfl, rfl, rfl, trivial⟩, ⟨hn48, hev, hms, hfr, hpr, hs_p0, hs_p500, hb_p500⟩, Nat.lt_succ_self _⟩
   replace h := ite_f hb h
   refine c_exit ?_
   refine k_then_exit ?_
   have hx := some_inj h
   subst hx
   have hy := some_inj hn48
   subst hy
   replace h := h48
   refine k_then_exit ?_
   refine k_block_in ?_
   refine k_then ?_
   refine c_norm [] trivial (fun J => ?_)
   refine c_ret ?_
   refine k_then_ret ?_
   refine r_ret (r_vals [] trivial ?_)
   have hx := some_inj h
   subst hx
   have hmr : MS wl48 [blk a_p0, [b_p500], M] := hms.pick [some 0, some 1, some 2] _ rfl
   have hsu : ∀ x ∈ fl [blk a_p0, [b_p500], M], x ∈ fl [blk a_p0, [b_p500], M] := pick_sub [some 0, some 1, some 2] _ rfl
   have hfe : FR w.heap.size [] := hfr.pick [] _ rfl
   exact ⟨rfl, hev, hs_p0.sub hsu, hb_p500, hmr, hfe, (NP.cons (hpr.at 0 rfl) (NP.cons (hpr.at 1 rfl) (NP.nil _ _)))⟩
 replace h := ite_f hb h
 refine c_skip ?_
 refine k_then ?_
 refine c_sp ?_
 refine x_pure 3 [(129, Vi p1), (130, Vi p3), (131, Vi (IntKind.i64.wrap (p1 + p3)))] _ _ _ (by kernel_rfl) ?_
 refine x_convert (.int .u64 (IntKind.u64.wrap (IntKind.i64.wrap (p1 + p3)))) _ rfl rfl rfl (tcv3_50 (IntKind.i64.wrap (p1 + p3)) _) ?_
 refine inl1 ?_
 refine x_pure 1 [(133, .int .u64 (Int.fdiv (IntKind.u64.wrap (IntKind.i64.wrap (p1 + p3))) (2 ^ (min (Int.toNat (1)) IntKind.u64.bits))))] _ _ _ (by kernel_rfl) ?_
 refine x_convert (Vi (IntKind.i64.wrap (Int.fdiv (IntKind.u64.wrap (IntKind.i64.wrap (p1 + p3))) (2 ^ (min (Int.toNat (1)) IntKind.u64.bits))))) _ rfl rfl rfl (tcv50_3 (Int.fdiv (IntKind.u64.wrap (IntKind.i64.wrap (p1 + p3))) (2 ^ (min (Int.toNat (1)) IntKind.u64.bits))) _) ?_
 refine inl1 ?_
 refine x_pure 1 [(18, Vi (IntKind.i64.wrap (Int.fdiv (IntKind.u64.wrap (IntKind.i64.wrap (p1 + p3))) (2 ^ (min (Int.toNat (1)) IntKind.u64.bits)))))] _ _ _ (by kernel_rfl) ?_
 refine x_ek ?_
 refine c_norm [(0, .slice a_p0 (p0).length c_p0), (1, Vi p1), (2, Vi p2), (3, Vi p3), (4, (.func (.func 30) #[] #[Vp b_p500 0])), (18, Vi (IntKind.i64.wrap (Int.fdiv (IntKind.u64.wrap (IntKind.i64.wrap (p1 + p3))) (2 ^ (min (Int.toNat (1)) IntKind.u64.bits)))))] ⟨rfl, rfl, rfl, rfl, rfl, rfl, trivial⟩ (fun J => ?_)
 refine c_sp ?_
 refine x_pure 4 [(135, Vi (IntKind.i64.wrap (Int.fdiv (IntKind.u64.wrap (IntKind.i64.wrap (p1 + p3))) (2 ^ (min (Int.toNat (1)) IntKind.u64.bits))))), (136, Vi p2), (137, Vi (IntKind.i64.wrap ((IntKind.i64.wrap (Int.fdiv (IntKind.u64.wrap (IntKind.i64.wrap (p1 + p3))) (2 ^ (min (Int.toNat (1)) IntKind.u64.bits)))) + p2))), (19, Vi (IntKind.i64.wrap ((IntKind.i64.wrap (Int.fdiv (IntKind.u64.wrap (IntKind.i64.wrap (p1 + p3))) (2 ^ (min (Int.toNat (1)) IntKind.u64.bits)))) + p2)))] _ _ _ (by kernel_rfl) ?_
 refine x_ek ?_
 refine c_sp ?_
 refine x_pure 2 [(20, Vi 0), (21, Vi 0)] _ _ _ (by kernel_rfl) ?_
 refine x_ek ?_
 refine c_join (σ := Int × Int) (fun s => match s with | (start_s20_j66, v_r_s21_j66) => [(0, .slice a_p0 (p0).length c_p0), (1, Vi p1), (2, Vi p2), (3, Vi p3), (4, (.func (.func 30) #[] #[Vp b_p500 0])), (18, Vi (IntKind.i64.wrap (Int.fdiv (IntKind.u64.wrap (IntKind.i64.wrap (p1 + p3))) (2 ^ (min (Int.toNat (1)) IntKind.u64.bits))))), (19, Vi (IntKind.i64.wrap ((IntKind.i64.wrap (Int.fdiv (IntKind.u64.wrap (IntKind.i64.wrap (p1 + p3))) (2 ^ (min (Int.toNat (1)) IntKind.u64.bits)))) + p2))), (20, Vi start_s20_j66), (21, Vi v_r_s21_j66)]) (fun s w' => match s with | (start_s20_j66, v_r_s21_j66) => slices_symMergeCmpFunc_int__J66 p0 p1 p2 p3 p500 RF start_s20_j66 v_r_s21_j66 = some r ∧ Ev (fl [blk a_p0, [b_p500]]) w w' ∧ MS w' [blk a_p0, [b_p500], M] ∧ FR w.heap.size [] ∧ NP (fl [blk a_p0, [b_p500]]) w.heap.size [blk a_p0, [b_p500]] ∧ OwnS (eInt .i64) 3 w' (fl [blk a_p0, [b_p500], M]) a_p0 c_p0 p0 ∧ SlR (eInt .i64) w' (fl [blk a_p0, [b_p500], M]) a_p500 c_p500 p500 ∧ w'.heap[b_p500]? = some (.cells #[.slice a_p500 (p500).length c_p500] 22 (0, 0))) ?_ ?_
 · refine c_sp ?_
   refine x_pure 3 [(138, Vi p2), (139, Vi (IntKind.i64.wrap (Int.fdiv (IntKind.u64.wrap (IntKind.i64.wrap (p1 + p3))) (2 ^ (min (Int.toNat (1)) IntKind.u64.bits))))), (140, .bool (decide (p2 > (IntKind.i64.wrap (Int.fdiv (IntKind.u64.wrap (IntKind.i64.wrap (p1 + p3))) (2 ^ (min (Int.toNat (1)) IntKind.u64.bits)))))))] _ _ _ (by kernel_rfl) ?_
   refine x_ek ?_
   refine c_cond (decide (p2 > (IntKind.i64.wrap (Int.fdiv (IntKind.u64.wrap (IntKind.i64.wrap (p1 + p3))) (2 ^ (min (Int.toNat (1)) IntKind.u64.bits)))))) rfl (fun hb => ?_) (fun hb => ?_)
   · replace h := ite_t hb h
     refine c_sp ?_
     refine x_pure 4 [(141, Vi (IntKind.i64.wrap ((IntKind.i64.wrap (Int.fdiv (IntKind.u64.wrap (IntKind.i64.wrap (p1 + p3))) (2 ^ (min (Int.toNat (1)) IntKind.u64.bits)))) + p2))), (142, Vi p3), (143, Vi (IntKind.i64.wrap ((IntKind.i64.wrap ((IntKind.i64.wrap (Int.fdiv (IntKind.u64.wrap (IntKind.i64.wrap (p1 + p3))) (2 ^ (min (Int.toNat (1)) IntKind.u64.bits)))) + p2)) - p3))), (20, Vi (IntKind.i64.wrap ((IntKind.i64.wrap ((IntKind.i64.wrap (Int.fdiv (IntKind.u64.wrap (IntKind.i64.wrap (p1 + p3))) (2 ^ (min (Int.toNat (1)) IntKind.u64.bits)))) + p2)) - p3)))] _ _ _ (by kernel_rfl) ?_
     refine x_ek ?_
     refine c_norm [(0, .slice a_p0 (p0).length c_p0), (1, Vi p1), (2, Vi p2), (3, Vi p3), (4, (.func (.func 30) #[] #[Vp b_p500 0])), (18, Vi (IntKind.i64.wrap (Int.fdiv (IntKind.u64.wrap (IntKind.i64.wrap (p1 + p3))) (2 ^ (min (Int.toNat (1)) IntKind.u64.bits))))), (19, Vi (IntKind.i64.wrap ((IntKind.i64.wrap (Int.fdiv (IntKind.u64.wrap (IntKind.i64.wrap (p1 + p3))) (2 ^ (min (Int.toNat (1)) IntKind.u64.bits)))) + p2))), (20, Vi (IntKind.i64.wrap ((IntKind.i64.wrap ((IntKind.i64.wrap (Int.fdiv (IntKind.u64.wrap (IntKind.i64.wrap (p1 + p3))) (2 ^ (min (Int.toNat (1)) IntKind.u64.bits)))) + p2)) - p3)))] ⟨rfl, rfl, rfl, rfl, rfl, rfl, rfl, rfl, trivial⟩ (fun J => ?_)
     refine c_plain ?_
     refine x_pure 2 [(144, Vi (IntKind.i64.wrap (Int.fdiv (IntKind.u64.wrap (IntKind.i64.wrap (p1 + p3))) (2 ^ (min (Int.toNat (1)) IntKind.u64.bits))))), (21, Vi (IntKind.i64.wrap (Int.fdiv (IntKind.u64.wrap (IntKind.i64.wrap (p1 + p3))) (2 ^ (min (Int.toNat (1)) IntKind.u64.bits)))))] _ _ _ (by kernel_rfl) ?_
     refine x_end rfl ?_
     exact k_then ⟨(IntKind.i64.wrap ((IntKind.i64.wrap ((IntKind.i64.wrap (Int.fdiv (IntKind.u64.wrap (IntKind.i64.wrap (p1 + p3))) (2 ^ (min (Int.toNat (1)) IntKind.u64.bits)))) + p2)) - p3), IntKind.i64.wrap (Int.fdiv (IntKind.u64.wrap (IntKind.i64.wrap (p1 + p3))) (2 ^ (min (Int.toNat (1)) IntKind.u64.bits)))), ⟨rfl, rfl, rfl, rfl, rfl, rfl, rfl, rfl, rfl, trivial⟩, h, hev, hms, hfr, hpr, hs_p0, hs_p500, hb_p500⟩
   replace h := ite_f hb h
   refine c_sp ?_
   refine x_pure 2 [(145, Vi p1), (20, Vi p1)] _ _ _ (by kernel_rfl) ?_
   refine x_ek ?_
   refine c_plain ?_
   refine x_pure 2 [(146, Vi p2), (21, Vi p2)] _ _ _ (by kernel_rfl) ?_
   refine x_end rfl ?_
   exact k_then ⟨(p1, p2), ⟨rfl, rfl, rfl, rfl, rfl, rfl, rfl, rfl, rfl, trivial⟩, h, hev, hms, hfr, hpr, hs_p0, hs_p500, hb_p500⟩
 rintro ⟨start_s20_j66, v_r_s21_j66⟩ J wj66 ⟨h, hev, hms, hfr, hpr, hs_p0, hs_p500, hb_p500⟩
 refine c_sp ?_
 refine x_pure 3 [(147, Vi (IntKind.i64.wrap ((IntKind.i64.wrap (Int.fdiv (IntKind.u64.wrap (IntKind.i64.wrap (p1 + p3))) (2 ^ (min (Int.toNat (1)) IntKind.u64.bits)))) + p2))), (148, Vi (IntKind.i64.wrap ((IntKind.i64.wrap ((IntKind.i64.wrap (Int.fdiv (IntKind.u64.wrap (IntKind.i64.wrap (p1 + p3))) (2 ^ (min (Int.toNat (1)) IntKind.u64.bits)))) + p2)) - 1))), (22, Vi (IntKind.i64.wrap ((IntKind.i64.wrap ((IntKind.i64.wrap (Int.fdiv (IntKind.u64.wrap (IntKind.i64.wrap (p1 + p3))) (2 ^ (min (Int.toNat (1)) IntKind.u64.bits)))) + p2)) - 1)))] _ _ _ (by kernel_rfl) ?_
 refine x_ek ?_
 refine c_norm [(0, .slice a_p0 (p0).length c_p0), (1, Vi p1), (2, Vi p2), (3, Vi p3), (4, (.func (.func 30) #[] #[Vp b_p500 0])), (18, Vi (IntKind.i64.wrap (Int.fdiv (IntKind.u64.wrap (IntKind.i64.wrap (p1 + p3))) (2 ^ (min (Int.toNat (1)) IntKind.u64.bits))))), (19, Vi (IntKind.i64.wrap ((IntKind.i64.wrap (Int.fdiv (IntKind.u64.wrap (IntKind.i64.wrap (p1 + p3))) (2 ^ (min (Int.toNat (1)) IntKind.u64.bits)))) + p2))), (20, Vi start_s20_j66), (21, Vi v_r_s21_j66), (22, Vi (IntKind.i64.wrap ((IntKind.i64.wrap ((IntKind.i64.wrap (Int.fdiv (IntKind.u64.wrap (IntKind.i64.wrap (p1 + p3))) (2 ^ (min (Int.toNat (1)) IntKind.u64.bits)))) + p2)) - 1)))] ⟨rfl, rfl, rfl, rfl, rfl, rfl, rfl, rfl, rfl, rfl, trivial⟩ (fun J => ?_)
 refine c_seq ?_
 refine c_block ?_
 obtain ⟨d68, hd68, h68⟩ := bind_some h
 obtain ⟨m68, hd68⟩ := loop_some hd68
 refine c_loop (loop_rule hmx (σ := Nat × Int × Int) (fun s => match s with | (_, start_s20_l68, v_r_s21_l68) => [(0, .slice a_p0 (p0).length c_p0), (1, Vi p1), (2, Vi p2), (3, Vi p3), (4, (.func (.func 30) #[] #[Vp b_p500 0])), (18, Vi (IntKind.i64.wrap (Int.fdiv (IntKind.u64.wrap (IntKind.i64.wrap (p1 + p3))) (2 ^ (min (Int.toNat (1)) IntKind.u64.bits))))), (19, Vi (IntKind.i64.wrap ((IntKind.i64.wrap (Int.fdiv (IntKind.u64.wrap (IntKind.i64.wrap (p1 + p3))) (2 ^ (min (Int.toNat (1)) IntKind.u64.bits)))) + p2))), (20, Vi start_s20_l68), (21, Vi v_r_s21_l68), (22, Vi (IntKind.i64.wrap ((IntKind.i64.wrap ((IntKind.i64.wrap (Int.fdiv (IntKind.u64.wrap (IntKind.i64.wrap (p1 + p3))) (2 ^ (min (Int.toNat (1)) IntKind.u64.bits)))) + p2)) - 1)))]) (fun s w' => match s with | (m, start_s20_l68, v_r_s21_l68) => loopN (slices_symMergeCmpFunc_int__L68 p0 p1 p2 p3 p500) m (start_s20_l68, v_r_s21_l68) = some d68 ∧ Ev (fl [blk a_p0, [b_p500]]) w w' ∧ MS w' [blk a_p0, [b_p500], M] ∧ FR w.heap.size [] ∧ NP (fl [blk a_p0, [b_p500]]) w.heap.size [blk a_p0, [b_p500]] ∧ OwnS (eInt .i64) 3 w' (fl [blk a_p0, [b_p500], M]) a_p0 c_p0 p0 ∧ SlR (eInt .i64) w' (fl [blk a_p0, [b_p500], M]) a_p500 c_p500 p500 ∧ w'.heap[b_p500]? = some (.cells #[.slice a_p500 (p500).length c_p500] 22 (0, 0))) (fun s => s.1) (m68, start_s20_j66, v_r_s21_j66) ⟨rfl, rfl, rfl, rfl, rfl, rfl, rfl, rfl, rfl, rfl, trivial⟩ ⟨hd68, hev, hms, hfr, hpr, hs_p0, hs_p500, hb_p500⟩ ?_)
 rintro ⟨m68, start_s20_l68, v_r_s21_l68⟩ J wl68 ⟨hn68, hev, hms, hfr, hpr, hs_p0, hs_p500, hb_p500⟩
 rcases m68 with _ | m68
 · exact (loopN_zero hn68).elim
 obtain ⟨t68, h, hn68⟩ := bind_some hn68
 refine c_seq ?_
 refine c_sp ?_
 refine x_pure 3 [(149, Vi start_s20_l68), (150, Vi v_r_s21_l68), (151, .bool (decide (start_s20_l68 < v_r_s21_l68)))] _ _ _ (by kernel_rfl) ?_
 refine x_ek ?_
 refine c_norm [(0, .slice a_p0 (p0).length c_p0), (1, Vi p1), (2, Vi p2), (3, Vi p3), (4, (.func (.func 30) #[] #[Vp b_p500 0])), (18, Vi (IntKind.i64.wrap (Int.fdiv (IntKind.u64.wrap (IntKind.i64.wrap (p1 + p3))) (2 ^ (min (Int.toNat (1)) IntKind.u64.bits))))), (19, Vi (IntKind.i64.wrap ((IntKind.i64.wrap (Int.fdiv (IntKind.u64.wrap (IntKind.i64.wrap (p1 + p3))) (2 ^ (min (Int.toNat (1)) IntKind.u64.bits)))) + p2))), (20, Vi start_s20_l68), (21, Vi v_r_s21_l68), (22, Vi (IntKind.i64.wrap ((IntKind.i64.wrap ((IntKind.i64.wrap (Int.fdiv (IntKind.u64.wrap (IntKind.i64.wrap (p1 + p3))) (2 ^ (min (Int.toNat (1)) IntKind.u64.bits)))) + p2)) - 1))), (151, .bool (decide (start_s20_l68 < v_r_s21_l68)))] ⟨rfl, rfl, rfl, rfl, rfl, rfl, rfl, rfl, rfl, rfl, rfl, trivial⟩ (fun J => ?_)
 refine c_cond (decide (start_s20_l68 < v_r_s21_l68)) rfl (fun hb => ?_) (fun hb => ?_)
 · replace h := ite_t hb h
   refine c_skip ?_
   refine k_then ?_
   refine c_block ?_
   refine c_sp ?_
   refine x_pure 3 [(152, Vi start_s20_l68), (153, Vi v_r_s21_l68), (154, Vi (IntKind.i64.wrap (start_s20_l68 + v_r_s21_l68)))] _ _ _ (by kernel_rfl) ?_
   refine x_convert (.int .u64 (IntKind.u64.wrap (IntKind.i64.wrap (start_s20_l68 + v_r_s21_l68)))) _ rfl rfl rfl (tcv3_50 (IntKind.i64.wrap (start_s20_l68 + v_r_s21_l68)) _) ?_
   refine inl1 ?_
   refine x_pure 1 [(156, .int .u64 (Int.fdiv (IntKind.u64.wrap (IntKind.i64.wrap (start_s20_l68 + v_r_s21_l68))) (2 ^ (min (Int.toNat (1)) IntKind.u64.bits))))] _ _ _ (by kernel_rfl) ?_
   refine x_convert (Vi (IntKind.i64.wrap (Int.fdiv (IntKind.u64.wrap (IntKind.i64.wrap (start_s20_l68 + v_r_s21_l68))) (2 ^ (min (Int.toNat (1)) IntKind.u64.bits))))) _ rfl rfl rfl (tcv50_3 (Int.fdiv (IntKind.u64.wrap (IntKind.i64.wrap (start_s20_l68 + v_r_s21_l68))) (2 ^ (min (Int.toNat (1)) IntKind.u64.bits))) _) ?_
   refine inl1 ?_
   refine x_pure 1 [(23, Vi (IntKind.i64.wrap (Int.fdiv (IntKind.u64.wrap (IntKind.i64.wrap (start_s20_l68 + v_r_s21_l68))) (2 ^ (min (Int.toNat (1)) IntKind.u64.bits)))))] _ _ _ (by kernel_rfl) ?_
   refine x_ek ?_
   refine c_seq ?_
   refine c_drawn [] [(0, false), (1, false), (2, false), (3, false), (4, false), (5, false), (6, false), (7, false), (8, false), (9, false), (10, false), (11, true), (12, false), (13, false)] _ (by kernel_rfl) rfl ?_
   have hst := Stp.ext (ls := [blk a_p0, [b_p500], M]) (Ev.drew wl68)
   replace hs_p0 := hs_p0.step hst (Ev.drew wl68) nn2
   replace hb_p500 := (Ev.drew wl68).box hb_p500 nn
   replace hs_p500 := hs_p500.step hst
   replace hms := hms.ev (Ev.drew wl68)
   replace hev := hev.ext (Ev.drew wl68)
   refine x_pure 5 [(158, (.func (.func 30) #[] #[Vp b_p500 0])), (159, .slice a_p0 (p0).length c_p0), (160, Vi (IntKind.i64.wrap ((IntKind.i64.wrap ((IntKind.i64.wrap (Int.fdiv (IntKind.u64.wrap (IntKind.i64.wrap (p1 + p3))) (2 ^ (min (Int.toNat (1)) IntKind.u64.bits)))) + p2)) - 1))), (161, Vi (IntKind.i64.wrap (Int.fdiv (IntKind.u64.wrap (IntKind.i64.wrap (start_s20_l68 + v_r_s21_l68))) (2 ^ (min (Int.toNat (1)) IntKind.u64.bits))))), (162, Vi (IntKind.i64.wrap ((IntKind.i64.wrap ((IntKind.i64.wrap ((IntKind.i64.wrap (Int.fdiv (IntKind.u64.wrap (IntKind.i64.wrap (p1 + p3))) (2 ^ (min (Int.toNat (1)) IntKind.u64.bits)))) + p2)) - 1)) - (IntKind.i64.wrap (Int.fdiv (IntKind.u64.wrap (IntKind.i64.wrap (start_s20_l68 + v_r_s21_l68))) (2 ^ (min (Int.toNat (1)) IntKind.u64.bits)))))))] _ _ _ (by kernel_rfl) ?_
   obtain ⟨x70, hx70, h⟩ := bind_some h
   obtain ⟨g70, cs70, ha70, hr70, hc70, hR⟩ := own_index (Mo := []) tsl22 hs_p0 hx70
   obtain rfl := hR
   refine x_indexAddr (xv := .slice a_p0 (p0).length c_p0) (yv := Vi (IntKind.i64.wrap ((IntKind.i64.wrap ((IntKind.i64.wrap ((IntKind.i64.wrap (Int.fdiv (IntKind.u64.wrap (IntKind.i64.wrap (p1 + p3))) (2 ^ (min (Int.toNat (1)) IntKind.u64.bits)))) + p2)) - 1)) - (IntKind.i64.wrap (Int.fdiv (IntKind.u64.wrap (IntKind.i64.wrap (start_s20_l68 + v_r_s21_l68))) (2 ^ (min (Int.toNat (1)) IntKind.u64.bits))))))) (.pointer (some ⟨g70, (Int.toNat (IntKind.i64.wrap ((IntKind.i64.wrap ((IntKind.i64.wrap ((IntKind.i64.wrap (Int.fdiv (IntKind.u64.wrap (IntKind.i64.wrap (p1 + p3))) (2 ^ (min (Int.toNat (1)) IntKind.u64.bits)))) + p2)) - 1)) - (IntKind.i64.wrap (Int.fdiv (IntKind.u64.wrap (IntKind.i64.wrap (start_s20_l68 + v_r_s21_l68))) (2 ^ (min (Int.toNat (1)) IntKind.u64.bits))))))) * (eInt .i64).n, none⟩)) rfl rfl rfl rfl hr70 ?_
   refine x_load (xv := .pointer (some ⟨g70, (Int.toNat (IntKind.i64.wrap ((IntKind.i64.wrap ((IntKind.i64.wrap ((IntKind.i64.wrap (Int.fdiv (IntKind.u64.wrap (IntKind.i64.wrap (p1 + p3))) (2 ^ (min (Int.toNat (1)) IntKind.u64.bits)))) + p2)) - 1)) - (IntKind.i64.wrap (Int.fdiv (IntKind.u64.wrap (IntKind.i64.wrap (start_s20_l68 + v_r_s21_l68))) (2 ^ (min (Int.toNat (1)) IntKind.u64.bits))))))) * (eInt .i64).n, none⟩)) (Vi x70) rfl rfl rfl (reads_cell0 tcell3 hc70 (fun _ h => by cases h)) ?_
   refine x_pure 2 [(165, .slice a_p0 (p0).length c_p0), (166, Vi (IntKind.i64.wrap (Int.fdiv (IntKind.u64.wrap (IntKind.i64.wrap (start_s20_l68 + v_r_s21_l68))) (2 ^ (min (Int.toNat (1)) IntKind.u64.bits)))))] _ _ _ (by kernel_rfl) ?_
   obtain ⟨x73, hx73, h⟩ := bind_some h
   obtain ⟨g73, cs73, ha73, hr73, hc73, hR⟩ := own_index (Mo := []) tsl22 hs_p0 hx73
   obtain rfl := hR
   refine x_indexAddr (xv := .slice a_p0 (p0).length c_p0) (yv := Vi (IntKind.i64.wrap (Int.fdiv (IntKind.u64.wrap (IntKind.i64.wrap (start_s20_l68 + v_r_s21_l68))) (2 ^ (min (Int.toNat (1)) IntKind.u64.bits))))) (.pointer (some ⟨g73, (Int.toNat (IntKind.i64.wrap (Int.fdiv (IntKind.u64.wrap (IntKind.i64.wrap (start_s20_l68 + v_r_s21_l68))) (2 ^ (min (Int.toNat (1)) IntKind.u64.bits))))) * (eInt .i64).n, none⟩)) rfl rfl rfl rfl hr73 ?_
   refine x_load (xv := .pointer (some ⟨g73, (Int.toNat (IntKind.i64.wrap (Int.fdiv (IntKind.u64.wrap (IntKind.i64.wrap (start_s20_l68 + v_r_s21_l68))) (2 ^ (min (Int.toNat (1)) IntKind.u64.bits))))) * (eInt .i64).n, none⟩)) (Vi x73) rfl rfl rfl (reads_cell0 tcell3 hc73 (fun _ h => by cases h)) ?_
   obtain ⟨x77, hx, h⟩ := bind_some h
   have hpk : MS (wl68).drew ([[b_p500]] ++ [blk a_p0, M]) := hms.pick [some 1, some 0, some 2] _ rfl
   have hsb0 : ∀ x ∈ fl ([[b_p500]] ++ [blk a_p0, M]), x ∈ fl [blk a_p0, [b_p500], M] := pick_sub [some 1, some 0, some 2] _ rfl
   have hsb : ∀ x ∈ fl ([[b_p500]] ++ [(fl [blk a_p0, M])]), x ∈ fl [blk a_p0, [b_p500], M] := fun x hx => hsb0 x (fl_unfold x hx)
   have hcall := assign_order_1_w x70 x73 b_p500 a_p500 c_p500 p500 _ (wl68).drew (fl [blk a_p0, M]) (hpk.fold (P := [[b_p500]])) (hs_p500.sub hsb) hb_p500 hx
   refine x_call 30 #[] #[Vp b_p500 0] [Vi x70, Vi x73, Vp b_p500 0] _ rfl rfl rfl rfl hcall ?_
   rintro v w78 ⟨rfl, he78, hp78_0⟩
   clear hcall hx
   refine inl1 ?_
   have hpk2 : MS (wl68).drew ([[b_p500]] ++ [blk a_p0, M]) := hms.pick [some 1, some 0, some 2] _ rfl
   have hsb2 : ∀ x ∈ fl ([[b_p500]] ++ [blk a_p0, M]), x ∈ fl [blk a_p0, [b_p500], M] := pick_sub [some 1, some 0, some 2] _ rfl
   have hst0 := Stp.call (LS := [blk a_p0, [b_p500], M]) (res := []) (par := [[b_p500]]) (R := [blk a_p0, M]) he78 (fun b hb => hsb2 b (fl_left' (P := [[b_p500]]) b hb)) (FR.nil _) (NP.init _ _) (fun x hx => hsb2 x (fl_right' (P := [[b_p500]]) x hx))
   have hsn : ∀ x ∈ fl [blk a_p0, [b_p500], M], x ∈ fl ([] ++ ([[b_p500]] ++ [blk a_p0, M])) := pick_sub [some 1, some 0, some 2] _ rfl
   have hst := hst0.res hsn
   replace hs_p0 := hs_p0.step hst he78 (MS.outs (P := [[b_p500]]) hpk2 0 rfl)
   replace hs_p500 := hs_p500.step hst
   replace hms := hms.ev he78
   have hPf : ∀ b ∈ fl [[b_p500]], b ∈ (fl [blk a_p0, [b_p500]]) ∨ w.heap.size ≤ b := NP.mem (ls := [[b_p500]]) (hpr.pick [some 1] _ rfl)
   replace hev := hev.then he78 hPf
   replace hb_p500 := hp78_0
   clear hpk hsb hsb0 hpk2 hsb2 hst0 hsn hst
   refine x_pure 2 [(170, .bool (decide (x77 < 0))), (171, .bool (!(decide (x77 < 0))))] _ _ _ (by kernel_rfl) ?_
   refine x_ek ?_
   refine c_norm [(0, .slice a_p0 (p0).length c_p0), (1, Vi p1), (2, Vi p2), (3, Vi p3), (4, (.func (.func 30) #[] #[Vp b_p500 0])), (18, Vi (IntKind.i64.wrap (Int.fdiv (IntKind.u64.wrap (IntKind.i64.wrap (p1 + p3))) (2 ^ (min (Int.toNat (1)) IntKind.u64.bits))))), (19, Vi (IntKind.i64.wrap ((IntKind.i64.wrap (Int.fdiv (IntKind.u64.wrap (IntKind.i64.wrap (p1 + p3))) (2 ^ (min (Int.toNat (1)) IntKind.u64.bits)))) + p2))), (20, Vi start_s20_l68), (21, Vi v_r_s21_l68), (22, Vi (IntKind.i64.wrap ((IntKind.i64.wrap ((IntKind.i64.wrap (Int.fdiv (IntKind.u64.wrap (IntKind.i64.wrap (p1 + p3))) (2 ^ (min (Int.toNat (1)) IntKind.u64.bits)))) + p2)) - 1))), (23, Vi (IntKind.i64.wrap (Int.fdiv (IntKind.u64.wrap (IntKind.i64.wrap (start_s20_l68 + v_r_s21_l68))) (2 ^ (min (Int.toNat (1)) IntKind.u64.bits))))), (171, .bool (!(decide (x77 < 0))))] ⟨rfl, rfl, rfl, rfl, rfl, rfl, rfl, rfl, rfl, rfl, rfl, rfl, trivial⟩ (fun J => ?_)
   refine c_cond (!(decide (x77 < 0))) rfl (fun hb => ?_) (fun hb => ?_)
   · replace h := ite_t hb h
     refine c_plain ?_
     refine x_pure 3 [(172, Vi (IntKind.i64.wrap (Int.fdiv (IntKind.u64.wrap (IntKind.i64.wrap (start_s20_l68 + v_r_s21_l68))) (2 ^ (min (Int.toNat (1)) IntKind.u64.bits))))), (173, Vi (IntKind.i64.wrap ((IntKind.i64.wrap (Int.fdiv (IntKind.u64.wrap (IntKind.i64.wrap (start_s20_l68 + v_r_s21_l68))) (2 ^ (min (Int.toNat (1)) IntKind.u64.bits)))) + 1))), (20, Vi (IntKind.i64.wrap ((IntKind.i64.wrap (Int.fdiv (IntKind.u64.wrap (IntKind.i64.wrap (start_s20_l68 + v_r_s21_l68))) (2 ^ (min (Int.toNat (1)) IntKind.u64.bits)))) + 1)))] _ _ _ (by kernel_rfl) ?_
     refine x_end rfl ?_
     refine k_block ?_
     have hx := some_inj h
     subst hx
     exact k_then ⟨(m68, IntKind.i64.wrap ((IntKind.i64.wrap (Int.fdiv (IntKind.u64.wrap (IntKind.i64.wrap (start_s20_l68 + v_r_s21_l68))) (2 ^ (min (Int.toNat (1)) IntKind.u64.bits)))) + 1), v_r_s21_l68), ⟨rfl, rfl, rfl, rfl, rfl, rfl, rfl, rfl, rfl, rfl, trivial⟩, ⟨hn68, hev, hms, hfr, hpr, hs_p0, hs_p500, hb_p500⟩, Nat.lt_succ_self _⟩
   replace h := ite_f hb h
   refine c_plain ?_
   refine x_pure 2 [(174, Vi (IntKind.i64.wrap (Int.fdiv (IntKind.u64.wrap (IntKind.i64.wrap (start_s20_l68 + v_r_s21_l68))) (2 ^ (min (Int.toNat (1)) IntKind.u64.bits))))), (21, Vi (IntKind.i64.wrap (Int.fdiv (IntKind.u64.wrap (IntKind.i64.wrap (start_s20_l68 + v_r_s21_l68))) (2 ^ (min (Int.toNat (1)) IntKind.u64.bits)))))] _ _ _ (by kernel_rfl) ?_
   refine x_end rfl ?_
   refine k_block ?_
   have hx := some_inj h
   subst hx
   exact k_then ⟨(m68, start_s20_l68, IntKind.i64.wrap (Int.fdiv (IntKind.u64.wrap (IntKind.i64.wrap (start_s20_l68 + v_r_s21_l68))) (2 ^ (min (Int.toNat (1)) IntKind.u64.bits)))), ⟨rfl, rfl, rfl, rfl, rfl, rfl, rfl, rfl, rfl, rfl, trivial⟩, ⟨hn68, hev, hms, hfr, hpr, hs_p0, hs_p500, hb_p500⟩, Nat.lt_succ_self _⟩
 replace h := ite_f hb h
 refine c_exit ?_
 refine k_then_exit ?_
 have hx := some_inj h
 subst hx
 have hy := some_inj hn68
 subst hy
 replace h := h68
 refine k_then_exit ?_
 refine k_block_in ?_
 refine k_then ?_
 refine c_norm [(0, .slice a_p0 (p0).length c_p0), (1, Vi p1), (2, Vi p2), (3, Vi p3), (4, (.func (.func 30) #[] #[Vp b_p500 0])), (18, Vi (IntKind.i64.wrap (Int.fdiv (IntKind.u64.wrap (IntKind.i64.wrap (p1 + p3))) (2 ^ (min (Int.toNat (1)) IntKind.u64.bits))))), (19, Vi (IntKind.i64.wrap ((IntKind.i64.wrap (Int.fdiv (IntKind.u64.wrap (IntKind.i64.wrap (p1 + p3))) (2 ^ (min (Int.toNat (1)) IntKind.u64.bits)))) + p2))), (20, Vi start_s20_l68)] ⟨rfl, rfl, rfl, rfl, rfl, rfl, rfl, rfl, trivial⟩ (fun J => ?_)
 refine c_sp ?_
 refine x_pure 4 [(175, Vi (IntKind.i64.wrap ((IntKind.i64.wrap (Int.fdiv (IntKind.u64.wrap (IntKind.i64.wrap (p1 + p3))) (2 ^ (min (Int.toNat (1)) IntKind.u64.bits)))) + p2))), (176, Vi start_s20_l68), (177, Vi (IntKind.i64.wrap ((IntKind.i64.wrap ((IntKind.i64.wrap (Int.fdiv (IntKind.u64.wrap (IntKind.i64.wrap (p1 + p3))) (2 ^ (min (Int.toNat (1)) IntKind.u64.bits)))) + p2)) - start_s20_l68))), (24, Vi (IntKind.i64.wrap ((IntKind.i64.wrap ((IntKind.i64.wrap (Int.fdiv (IntKind.u64.wrap (IntKind.i64.wrap (p1 + p3))) (2 ^ (min (Int.toNat (1)) IntKind.u64.bits)))) + p2)) - start_s20_l68)))] _ _ _ (by kernel_rfl) ?_
 refine x_ek ?_
 refine c_join (σ := (List Int)) (fun s => match s with | d1_j79 => [(0, .slice a_p0 (d1_j79).length c_p0), (1, Vi p1), (3, Vi p3), (4, (.func (.func 30) #[] #[Vp b_p500 0])), (18, Vi (IntKind.i64.wrap (Int.fdiv (IntKind.u64.wrap (IntKind.i64.wrap (p1 + p3))) (2 ^ (min (Int.toNat (1)) IntKind.u64.bits))))), (20, Vi start_s20_l68), (24, Vi (IntKind.i64.wrap ((IntKind.i64.wrap ((IntKind.i64.wrap (Int.fdiv (IntKind.u64.wrap (IntKind.i64.wrap (p1 + p3))) (2 ^ (min (Int.toNat (1)) IntKind.u64.bits)))) + p2)) - start_s20_l68)))]) (fun s w' => match s with | d1_j79 => slices_symMergeCmpFunc_int__J79 p1 p2 p3 p500 RF start_s20_l68 d1_j79 = some r ∧ Ev (fl [blk a_p0, [b_p500]]) w w' ∧ MS w' [blk a_p0, [b_p500], M] ∧ FR w.heap.size [] ∧ NP (fl [blk a_p0, [b_p500]]) w.heap.size [blk a_p0, [b_p500]] ∧ OwnS (eInt .i64) 3 w' (fl [blk a_p0, [b_p500], M]) a_p0 c_p0 d1_j79 ∧ SlR (eInt .i64) w' (fl [blk a_p0, [b_p500], M]) a_p500 c_p500 p500 ∧ w'.heap[b_p500]? = some (.cells #[.slice a_p500 (p500).length c_p500] 22 (0, 0))) ?_ ?_
 · refine c_join (σ := Bool) (fun s => match s with | t185__s185_j80 => [(0, .slice a_p0 (p0).length c_p0), (1, Vi p1), (2, Vi p2), (3, Vi p3), (4, (.func (.func 30) #[] #[Vp b_p500 0])), (18, Vi (IntKind.i64.wrap (Int.fdiv (IntKind.u64.wrap (IntKind.i64.wrap (p1 + p3))) (2 ^ (min (Int.toNat (1)) IntKind.u64.bits))))), (20, Vi start_s20_l68), (24, Vi (IntKind.i64.wrap ((IntKind.i64.wrap ((IntKind.i64.wrap (Int.fdiv (IntKind.u64.wrap (IntKind.i64.wrap (p1 + p3))) (2 ^ (min (Int.toNat (1)) IntKind.u64.bits)))) + p2)) - start_s20_l68))), (185, .bool t185__s185_j80)]) (fun s w' => match s with | t185__s185_j80 => slices_symMergeCmpFunc_int__J80 p0 p1 p2 p3 p500 RF start_s20_l68 t185__s185_j80 = some r ∧ Ev (fl [blk a_p0, [b_p500]]) w w' ∧ MS w' [blk a_p0, [b_p500], M] ∧ FR w.heap.size [] ∧ NP (fl [blk a_p0, [b_p500]]) w.heap.size [blk a_p0, [b_p500]] ∧ OwnS (eInt .i64) 3 w' (fl [blk a_p0, [b_p500], M]) a_p0 c_p0 p0 ∧ SlR (eInt .i64) w' (fl [blk a_p0, [b_p500], M]) a_p500 c_p500 p500 ∧ w'.heap[b_p500]? = some (.cells #[.slice a_p500 (p500).length c_p500] 22 (0, 0))) ?_ ?_
   · refine c_plain ?_
     refine x_pure 4 [(178, Vi start_s20_l68), (179, Vi p2), (180, .bool (decide (start_s20_l68 < p2))), (181, .bool (decide (start_s20_l68 < p2)))] _ _ _ (by kernel_rfl) ?_
     refine x_split 181 (decide (start_s20_l68 < p2)) rfl (fun hb => ?_) (fun hb => ?_)
     · replace h := ite_t hb h
       refine x_pure 4 [(182, Vi p2), (183, Vi (IntKind.i64.wrap ((IntKind.i64.wrap ((IntKind.i64.wrap (Int.fdiv (IntKind.u64.wrap (IntKind.i64.wrap (p1 + p3))) (2 ^ (min (Int.toNat (1)) IntKind.u64.bits)))) + p2)) - start_s20_l68))), (184, .bool (decide (p2 < (IntKind.i64.wrap ((IntKind.i64.wrap ((IntKind.i64.wrap (Int.fdiv (IntKind.u64.wrap (IntKind.i64.wrap (p1 + p3))) (2 ^ (min (Int.toNat (1)) IntKind.u64.bits)))) + p2)) - start_s20_l68))))), (185, .bool (decide (p2 < (IntKind.i64.wrap ((IntKind.i64.wrap ((IntKind.i64.wrap (Int.fdiv (IntKind.u64.wrap (IntKind.i64.wrap (p1 + p3))) (2 ^ (min (Int.toNat (1)) IntKind.u64.bits)))) + p2)) - start_s20_l68)))))] _ _ _ (by kernel_rfl) ?_
       refine x_end rfl ?_
       exact k_then ⟨decide (p2 < (IntKind.i64.wrap ((IntKind.i64.wrap ((IntKind.i64.wrap (Int.fdiv (IntKind.u64.wrap (IntKind.i64.wrap (p1 + p3))) (2 ^ (min (Int.toNat (1)) IntKind.u64.bits)))) + p2)) - start_s20_l68))), ⟨rfl, rfl, rfl, rfl, rfl, rfl, rfl, rfl, rfl, trivial⟩, h, hev, hms, hfr, hpr, hs_p0, hs_p500, hb_p500⟩
     replace h := ite_f hb h
     refine x_pure 4 [(182, undef), (183, undef), (184, undef), (185, .bool false)] _ _ _ (by kernel_rfl) ?_
     refine x_end rfl ?_
     exact k_then ⟨false, ⟨rfl, rfl, rfl, rfl, rfl, rfl, rfl, rfl, rfl, trivial⟩, h, hev, hms, hfr, hpr, hs_p0, hs_p500, hb_p500⟩
   rintro t185__s185_j80 J wj80 ⟨h, hev, hms, hfr, hpr, hs_p0, hs_p500, hb_p500⟩
   refine c_cond t185__s185_j80 rfl (fun hb => ?_) (fun hb => ?_)
   · replace h := ite_t hb h
     refine c_plain ?_
     refine x_pure 5 [(186, .slice a_p0 (p0).length c_p0), (187, Vi start_s20_l68), (188, Vi p2), (189, Vi (IntKind.i64.wrap ((IntKind.i64.wrap ((IntKind.i64.wrap (Int.fdiv (IntKind.u64.wrap (IntKind.i64.wrap (p1 + p3))) (2 ^ (min (Int.toNat (1)) IntKind.u64.bits)))) + p2)) - start_s20_l68))), (190, (.func (.func 30) #[] #[Vp b_p500 0]))] _ _ _ (by kernel_rfl) ?_
     obtain ⟨x81, hx, h⟩ := bind_some h
     have hpk : MS wj80 ([blk a_p0, [b_p500]] ++ [M]) := hms.pick [some 0, some 1, some 2] _ rfl
     have hsb0 : ∀ x ∈ fl ([blk a_p0, [b_p500]] ++ [M]), x ∈ fl [blk a_p0, [b_p500], M] := pick_sub [some 0, some 1, some 2] _ rfl
     have hsb : ∀ x ∈ fl ([blk a_p0, [b_p500]] ++ [(fl [M])]), x ∈ fl [blk a_p0, [b_p500], M] := fun x hx => hsb0 x (fl_unfold x hx)
     have hcall := slices_rotateCmpFunc_int__w a_p0 c_p0 p0 start_s20_l68 p2 (IntKind.i64.wrap ((IntKind.i64.wrap ((IntKind.i64.wrap (Int.fdiv (IntKind.u64.wrap (IntKind.i64.wrap (p1 + p3))) (2 ^ (min (Int.toNat (1)) IntKind.u64.bits)))) + p2)) - start_s20_l68)) b_p500 a_p500 c_p500 p500 _ wj80 (fl [M]) (hpk.fold (P := [blk a_p0, [b_p500]])) (hs_p0.sub hsb) (hs_p500.sub hsb) hb_p500 hx
     refine x_call 53 #[] #[] [.slice a_p0 (p0).length c_p0, Vi start_s20_l68, Vi p2, Vi (IntKind.i64.wrap ((IntKind.i64.wrap ((IntKind.i64.wrap (Int.fdiv (IntKind.u64.wrap (IntKind.i64.wrap (p1 + p3))) (2 ^ (min (Int.toNat (1)) IntKind.u64.bits)))) + p2)) - start_s20_l68)), (.func (.func 30) #[] #[Vp b_p500 0])] _ rfl rfl rfl rfl hcall ?_
     rintro v w82 ⟨rfl, he82, hp82_0, hp82_1, hmn82, hfn82, hnp82⟩
     clear hcall hx
     refine inl1 ?_
     have hpk2 : MS wj80 ([blk a_p0, [b_p500]] ++ [M]) := hms.pick [some 0, some 1, some 2] _ rfl
     have hsb2 : ∀ x ∈ fl ([blk a_p0, [b_p500]] ++ [M]), x ∈ fl [blk a_p0, [b_p500], M] := pick_sub [some 0, some 1, some 2] _ rfl
     have hst0 := Stp.call (LS := [blk a_p0, [b_p500], M]) (res := []) (par := [blk a_p0, [b_p500]]) (R := [M]) he82 (fun b hb => hsb2 b (fl_left' (P := [blk a_p0, [b_p500]]) b hb)) hfn82 hnp82 (fun x hx => hsb2 x (fl_right' (P := [blk a_p0, [b_p500]]) x hx))
     have hsn : ∀ x ∈ fl [blk a_p0, [b_p500], M], x ∈ fl ([] ++ ([blk a_p0, [b_p500]] ++ [M])) := pick_sub [some 0, some 1, some 2] _ rfl
     have hst := hst0.res hsn
     replace hs_p500 := hs_p500.step hst
     replace hms : MS w82 [blk a_p0, [b_p500], M] := (MS.call (P := [blk a_p0, [b_p500]]) (R := [M]) (res := []) (par := [blk a_p0, [b_p500]]) hpk2 he82 hmn82 hfn82 hnp82).pick [some 0, some 1, some 2] _ rfl
     have hPf : ∀ b ∈ fl [blk a_p0, [b_p500]], b ∈ (fl [blk a_p0, [b_p500]]) ∨ w.heap.size ≤ b := NP.mem (ls := [blk a_p0, [b_p500]]) (hpr.pick [some 0, some 1] _ rfl)
     have hpr2 : NP (fl [blk a_p0, [b_p500]]) w.heap.size [blk a_p0, [b_p500]] := (NP.cons (fun b hb => (hnp82.at 0 rfl b hb).elim (fun h => hPf b h) (fun h => .inr (Nat.le_trans hev.size h))) (NP.cons (fun b hb => (hnp82.at 1 rfl b hb).elim (fun h => hPf b h) (fun h => .inr (Nat.le_trans hev.size h))) (NP.nil _ _)))
     replace hev := hev.then he82 hPf
     replace hpr := hpr2
     clear hpr2
     replace hb_p500 := hp82_1
     replace hs_p0 := OwnS.plain (M' := fl [blk a_p0, [b_p500], M]) (plain_int _) hp82_0
     clear hpk hsb hsb0 hpk2 hsb2 hst0 hsn hst
     have hgl := guard_l h
     replace h := guard_r h
     have hsl : (Value.slice a_p0 (p0).length c_p0) = (Value.slice a_p0 (x81).length c_p0) := by first | (rw [hgl]; done) | simp only [hgl]
     try rw [hsl]
     clear hsl
     refine x_end rfl ?_
     exact k_then ⟨x81, ⟨rfl, rfl, rfl, rfl, rfl, rfl, rfl, trivial⟩, h, hev, hms, hfr, hpr, hs_p0, hs_p500, hb_p500⟩
   replace h := ite_f hb h
   refine c_skip ?_
   exact k_then ⟨p0, ⟨rfl, rfl, rfl, rfl, rfl, rfl, rfl, trivial⟩, h, hev, hms, hfr, hpr, hs_p0, hs_p500, hb_p500⟩
 rintro d1_j79 J wj79 ⟨h, hev, hms, hfr, hpr, hs_p0, hs_p500, hb_p500⟩
 refine c_join (σ := (List Int)) (fun s => match s with | d1_j83 => [(0, .slice a_p0 (d1_j83).length c_p0), (3, Vi p3), (4, (.func (.func 30) #[] #[Vp b_p500 0])), (18, Vi (IntKind.i64.wrap (Int.fdiv (IntKind.u64.wrap (IntKind.i64.wrap (p1 + p3))) (2 ^ (min (Int.toNat (1)) IntKind.u64.bits))))), (24, Vi (IntKind.i64.wrap ((IntKind.i64.wrap ((IntKind.i64.wrap (Int.fdiv (IntKind.u64.wrap (IntKind.i64.wrap (p1 + p3))) (2 ^ (min (Int.toNat (1)) IntKind.u64.bits)))) + p2)) - start_s20_l68)))]) (fun s w' => match s with | d1_j83 => slices_symMergeCmpFunc_int__J83 p1 p2 p3 p500 RF start_s20_l68 d1_j83 = some r ∧ Ev (fl [blk a_p0, [b_p500]]) w w' ∧ MS w' [blk a_p0, [b_p500], M] ∧ FR w.heap.size [] ∧ NP (fl [blk a_p0, [b_p500]]) w.heap.size [blk a_p0, [b_p500]] ∧ OwnS (eInt .i64) 3 w' (fl [blk a_p0, [b_p500], M]) a_p0 c_p0 d1_j83 ∧ SlR (eInt .i64) w' (fl [blk a_p0, [b_p500], M]) a_p500 c_p500 p500 ∧ w'.heap[b_p500]? = some (.cells #[.slice a_p500 (p500).length c_p500] 22 (0, 0))) ?_ ?_
 · refine c_join (σ := Bool) (fun s => match s with | t199__s199_j84 => [(0, .slice a_p0 (d1_j79).length c_p0), (1, Vi p1), (3, Vi p3), (4, (.func (.func 30) #[] #[Vp b_p500 0])), (18, Vi (IntKind.i64.wrap (Int.fdiv (IntKind.u64.wrap (IntKind.i64.wrap (p1 + p3))) (2 ^ (min (Int.toNat (1)) IntKind.u64.bits))))), (20, Vi start_s20_l68), (24, Vi (IntKind.i64.wrap ((IntKind.i64.wrap ((IntKind.i64.wrap (Int.fdiv (IntKind.u64.wrap (IntKind.i64.wrap (p1 + p3))) (2 ^ (min (Int.toNat (1)) IntKind.u64.bits)))) + p2)) - start_s20_l68))), (199, .bool t199__s199_j84)]) (fun s w' => match s with | t199__s199_j84 => slices_symMergeCmpFunc_int__J84 p1 p2 p3 p500 RF start_s20_l68 d1_j79 t199__s199_j84 = some r ∧ Ev (fl [blk a_p0, [b_p500]]) w w' ∧ MS w' [blk a_p0, [b_p500], M] ∧ FR w.heap.size [] ∧ NP (fl [blk a_p0, [b_p500]]) w.heap.size [blk a_p0, [b_p500]] ∧ OwnS (eInt .i64) 3 w' (fl [blk a_p0, [b_p500], M]) a_p0 c_p0 d1_j79 ∧ SlR (eInt .i64) w' (fl [blk a_p0, [b_p500], M]) a_p500 c_p500 p500 ∧ w'.heap[b_p500]? = some (.cells #[.slice a_p500 (p500).length c_p500] 22 (0, 0))) ?_ ?_
   · refine c_plain ?_
     refine x_pure 4 [(192, Vi p1), (193, Vi start_s20_l68), (194, .bool (decide (p1 < start_s20_l68))), (195, .bool (decide (p1 < start_s20_l68)))] _ _ _ (by kernel_rfl) ?_
     refine x_split 195 (decide (p1 < start_s20_l68)) rfl (fun hb => ?_) (fun hb => ?_)
     · replace h := ite_t hb h
       refine x_pure 4 [(196, Vi start_s20_l68), (197, Vi (IntKind.i64.wrap (Int.fdiv (IntKind.u64.wrap (IntKind.i64.wrap (p1 + p3))) (2 ^ (min (Int.toNat (1)) IntKind.u64.bits))))), (198, .bool (decide (start_s20_l68 < (IntKind.i64.wrap (Int.fdiv (IntKind.u64.wrap (IntKind.i64.wrap (p1 + p3))) (2 ^ (min (Int.toNat (1)) IntKind.u64.bits))))))), (199, .bool (decide (start_s20_l68 < (IntKind.i64.wrap (Int.fdiv (IntKind.u64.wrap (IntKind.i64.wrap (p1 + p3))) (2 ^ (min (Int.toNat (1)) IntKind.u64.bits)))))))] _ _ _ (by kernel_rfl) ?_
       refine x_end rfl ?_
       exact k_then ⟨decide (start_s20_l68 < (IntKind.i64.wrap (Int.fdiv (IntKind.u64.wrap (IntKind.i64.wrap (p1 + p3))) (2 ^ (min (Int.toNat (1)) IntKind.u64.bits))))), ⟨rfl, rfl, rfl, rfl, rfl, rfl, rfl, rfl, trivial⟩, h, hev, hms, hfr, hpr, hs_p0, hs_p500, hb_p500⟩
     replace h := ite_f hb h
     refine x_pure 4 [(196, undef), (197, undef), (198, undef), (199, .bool false)] _ _ _ (by kernel_rfl) ?_
     refine x_end rfl ?_
     exact k_then ⟨false, ⟨rfl, rfl, rfl, rfl, rfl, rfl, rfl, rfl, trivial⟩, h, hev, hms, hfr, hpr, hs_p0, hs_p500, hb_p500⟩
   rintro t199__s199_j84 J wj84 ⟨h, hev, hms, hfr, hpr, hs_p0, hs_p500, hb_p500⟩
   refine c_cond t199__s199_j84 rfl (fun hb => ?_) (fun hb => ?_)
   · replace h := ite_t hb h
     refine c_plain ?_
     refine x_pure 5 [(200, .slice a_p0 (d1_j79).length c_p0), (201, Vi p1), (202, Vi start_s20_l68), (203, Vi (IntKind.i64.wrap (Int.fdiv (IntKind.u64.wrap (IntKind.i64.wrap (p1 + p3))) (2 ^ (min (Int.toNat (1)) IntKind.u64.bits))))), (204, (.func (.func 30) #[] #[Vp b_p500 0]))] _ _ _ (by kernel_rfl) ?_
     obtain ⟨x85, hx, h⟩ := bind_some h
     have hpk : MS wj84 ([blk a_p0, [b_p500]] ++ [M]) := hms.pick [some 0, some 1, some 2] _ rfl
     have hsb0 : ∀ x ∈ fl ([blk a_p0, [b_p500]] ++ [M]), x ∈ fl [blk a_p0, [b_p500], M] := pick_sub [some 0, some 1, some 2] _ rfl
     have hsb : ∀ x ∈ fl ([blk a_p0, [b_p500]] ++ [(fl [M])]), x ∈ fl [blk a_p0, [b_p500], M] := fun x hx => hsb0 x (fl_unfold x hx)
     have hcall := RF_w a_p0 c_p0 d1_j79 p1 start_s20_l68 (IntKind.i64.wrap (Int.fdiv (IntKind.u64.wrap (IntKind.i64.wrap (p1 + p3))) (2 ^ (min (Int.toNat (1)) IntKind.u64.bits)))) b_p500 a_p500 c_p500 p500 _ wj84 (fl [M]) (hpk.fold (P := [blk a_p0, [b_p500]])) (hs_p0.sub hsb) (hs_p500.sub hsb) hb_p500 hx
     refine x_call 46 #[] #[] [.slice a_p0 (d1_j79).length c_p0, Vi p1, Vi start_s20_l68, Vi (IntKind.i64.wrap (Int.fdiv (IntKind.u64.wrap (IntKind.i64.wrap (p1 + p3))) (2 ^ (min (Int.toNat (1)) IntKind.u64.bits)))), (.func (.func 30) #[] #[Vp b_p500 0])] _ rfl rfl rfl rfl hcall ?_
     rintro v w86 ⟨rfl, he86, hp86_0, hp86_1, hmn86, hfn86, hnp86⟩
     clear hcall hx
     refine inl1 ?_
     have hpk2 : MS wj84 ([blk a_p0, [b_p500]] ++ [M]) := hms.pick [some 0, some 1, some 2] _ rfl
     have hsb2 : ∀ x ∈ fl ([blk a_p0, [b_p500]] ++ [M]), x ∈ fl [blk a_p0, [b_p500], M] := pick_sub [some 0, some 1, some 2] _ rfl
     have hst0 := Stp.call (LS := [blk a_p0, [b_p500], M]) (res := []) (par := [blk a_p0, [b_p500]]) (R := [M]) he86 (fun b hb => hsb2 b (fl_left' (P := [blk a_p0, [b_p500]]) b hb)) hfn86 hnp86 (fun x hx => hsb2 x (fl_right' (P := [blk a_p0, [b_p500]]) x hx))
     have hsn : ∀ x ∈ fl [blk a_p0, [b_p500], M], x ∈ fl ([] ++ ([blk a_p0, [b_p500]] ++ [M])) := pick_sub [some 0, some 1, some 2] _ rfl
     have hst := hst0.res hsn
     replace hs_p500 := hs_p500.step hst
     replace hms : MS w86 [blk a_p0, [b_p500], M] := (MS.call (P := [blk a_p0, [b_p500]]) (R := [M]) (res := []) (par := [blk a_p0, [b_p500]]) hpk2 he86 hmn86 hfn86 hnp86).pick [some 0, some 1, some 2] _ rfl
     have hPf : ∀ b ∈ fl [blk a_p0, [b_p500]], b ∈ (fl [blk a_p0, [b_p500]]) ∨ w.heap.size ≤ b := NP.mem (ls := [blk a_p0, [b_p500]]) (hpr.pick [some 0, some 1] _ rfl)
     have hpr2 : NP (fl [blk a_p0, [b_p500]]) w.heap.size [blk a_p0, [b_p500]] := (NP.cons (fun b hb => (hnp86.at 0 rfl b hb).elim (fun h => hPf b h) (fun h => .inr (Nat.le_trans hev.size h))) (NP.cons (fun b hb => (hnp86.at 1 rfl b hb).elim (fun h => hPf b h) (fun h => .inr (Nat.le_trans hev.size h))) (NP.nil _ _)))
     replace hev := hev.then he86 hPf
     replace hpr := hpr2
     clear hpr2
     replace hb_p500 := hp86_1
     replace hs_p0 := OwnS.plain (M' := fl [blk a_p0, [b_p500], M]) (plain_int _) hp86_0
     clear hpk hsb hsb0 hpk2 hsb2 hst0 hsn hst
     have hgl := guard_l h
     replace h := guard_r h
     have hsl : (Value.slice a_p0 (d1_j79).length c_p0) = (Value.slice a_p0 (x85).length c_p0) := by first | (rw [hgl]; done) | simp only [hgl]
     try rw [hsl]
     clear hsl
     refine x_end rfl ?_
     exact k_then ⟨x85, ⟨rfl, rfl, rfl, rfl, rfl, trivial⟩, h, hev, hms, hfr, hpr, hs_p0, hs_p500, hb_p500⟩
   replace h := ite_f hb h
   refine c_skip ?_
   exact k_then ⟨d1_j79, ⟨rfl, rfl, rfl, rfl, rfl, trivial⟩, h, hev, hms, hfr, hpr, hs_p0, hs_p500, hb_p500⟩
 rintro d1_j83 J wj83 ⟨h, hev, hms, hfr, hpr, hs_p0, hs_p500, hb_p500⟩
 refine c_join (σ := Bool) (fun s => match s with | t213__s213_j87 => [(0, .slice a_p0 (d1_j83).length c_p0), (3, Vi p3), (4, (.func (.func 30) #[] #[Vp b_p500 0])), (18, Vi (IntKind.i64.wrap (Int.fdiv (IntKind.u64.wrap (IntKind.i64.wrap (p1 + p3))) (2 ^ (min (Int.toNat (1)) IntKind.u64.bits))))), (24, Vi (IntKind.i64.wrap ((IntKind.i64.wrap ((IntKind.i64.wrap (Int.fdiv (IntKind.u64.wrap (IntKind.i64.wrap (p1 + p3))) (2 ^ (min (Int.toNat (1)) IntKind.u64.bits)))) + p2)) - start_s20_l68))), (213, .bool t213__s213_j87)]) (fun s w' => match s with | t213__s213_j87 => slices_symMergeCmpFunc_int__J87 p1 p2 p3 p500 RF start_s20_l68 d1_j83 t213__s213_j87 = some r ∧ Ev (fl [blk a_p0, [b_p500]]) w w' ∧ MS w' [blk a_p0, [b_p500], M] ∧ FR w.heap.size [] ∧ NP (fl [blk a_p0, [b_p500]]) w.heap.size [blk a_p0, [b_p500]] ∧ OwnS (eInt .i64) 3 w' (fl [blk a_p0, [b_p500], M]) a_p0 c_p0 d1_j83 ∧ SlR (eInt .i64) w' (fl [blk a_p0, [b_p500], M]) a_p500 c_p500 p500 ∧ w'.heap[b_p500]? = some (.cells #[.slice a_p500 (p500).length c_p500] 22 (0, 0))) ?_ ?_
 · refine c_plain ?_
   refine x_pure 4 [(206, Vi (IntKind.i64.wrap (Int.fdiv (IntKind.u64.wrap (IntKind.i64.wrap (p1 + p3))) (2 ^ (min (Int.toNat (1)) IntKind.u64.bits))))), (207, Vi (IntKind.i64.wrap ((IntKind.i64.wrap ((IntKind.i64.wrap (Int.fdiv (IntKind.u64.wrap (IntKind.i64.wrap (p1 + p3))) (2 ^ (min (Int.toNat (1)) IntKind.u64.bits)))) + p2)) - start_s20_l68))), (208, .bool (decide ((IntKind.i64.wrap (Int.fdiv (IntKind.u64.wrap (IntKind.i64.wrap (p1 + p3))) (2 ^ (min (Int.toNat (1)) IntKind.u64.bits)))) < (IntKind.i64.wrap ((IntKind.i64.wrap ((IntKind.i64.wrap (Int.fdiv (IntKind.u64.wrap (IntKind.i64.wrap (p1 + p3))) (2 ^ (min (Int.toNat (1)) IntKind.u64.bits)))) + p2)) - start_s20_l68))))), (209, .bool (decide ((IntKind.i64.wrap (Int.fdiv (IntKind.u64.wrap (IntKind.i64.wrap (p1 + p3))) (2 ^ (min (Int.toNat (1)) IntKind.u64.bits)))) < (IntKind.i64.wrap ((IntKind.i64.wrap ((IntKind.i64.wrap (Int.fdiv (IntKind.u64.wrap (IntKind.i64.wrap (p1 + p3))) (2 ^ (min (Int.toNat (1)) IntKind.u64.bits)))) + p2)) - start_s20_l68)))))] _ _ _ (by kernel_rfl) ?_
   refine x_split 209 (decide ((IntKind.i64.wrap (Int.fdiv (IntKind.u64.wrap (IntKind.i64.wrap (p1 + p3))) (2 ^ (min (Int.toNat (1)) IntKind.u64.bits)))) < (IntKind.i64.wrap ((IntKind.i64.wrap ((IntKind.i64.wrap (Int.fdiv (IntKind.u64.wrap (IntKind.i64.wrap (p1 + p3))) (2 ^ (min (Int.toNat (1)) IntKind.u64.bits)))) + p2)) - start_s20_l68)))) rfl (fun hb => ?_) (fun hb => ?_)
   · replace h := ite_t hb h
     refine x_pure 4 [(210, Vi (IntKind.i64.wrap ((IntKind.i64.wrap ((IntKind.i64.wrap (Int.fdiv (IntKind.u64.wrap (IntKind.i64.wrap (p1 + p3))) (2 ^ (min (Int.toNat (1)) IntKind.u64.bits)))) + p2)) - start_s20_l68))), (211, Vi p3), (212, .bool (decide ((IntKind.i64.wrap ((IntKind.i64.wrap ((IntKind.i64.wrap (Int.fdiv (IntKind.u64.wrap (IntKind.i64.wrap (p1 + p3))) (2 ^ (min (Int.toNat (1)) IntKind.u64.bits)))) + p2)) - start_s20_l68)) < p3))), (213, .bool (decide ((IntKind.i64.wrap ((IntKind.i64.wrap ((IntKind.i64.wrap (Int.fdiv (IntKind.u64.wrap (IntKind.i64.wrap (p1 + p3))) (2 ^ (min (Int.toNat (1)) IntKind.u64.bits)))) + p2)) - start_s20_l68)) < p3)))] _ _ _ (by kernel_rfl) ?_
     refine x_end rfl ?_
     exact k_then ⟨decide ((IntKind.i64.wrap ((IntKind.i64.wrap ((IntKind.i64.wrap (Int.fdiv (IntKind.u64.wrap (IntKind.i64.wrap (p1 + p3))) (2 ^ (min (Int.toNat (1)) IntKind.u64.bits)))) + p2)) - start_s20_l68)) < p3), ⟨rfl, rfl, rfl, rfl, rfl, rfl, trivial⟩, h, hev, hms, hfr, hpr, hs_p0, hs_p500, hb_p500⟩
   replace h := ite_f hb h
   refine x_pure 4 [(210, undef), (211, undef), (212, undef), (213, .bool false)] _ _ _ (by kernel_rfl) ?_
   refine x_end rfl ?_
   exact k_then ⟨false, ⟨rfl, rfl, rfl, rfl, rfl, rfl, trivial⟩, h, hev, hms, hfr, hpr, hs_p0, hs_p500, hb_p500⟩
 rintro t213__s213_j87 J wj87 ⟨h, hev, hms, hfr, hpr, hs_p0, hs_p500, hb_p500⟩
 refine c_cond t213__s213_j87 rfl (fun hb => ?_) (fun hb => ?_)
 · replace h := ite_t hb h
   refine c_plain ?_
   refine x_pure 5 [(214, .slice a_p0 (d1_j83).length c_p0), (215, Vi (IntKind.i64.wrap (Int.fdiv (IntKind.u64.wrap (IntKind.i64.wrap (p1 + p3))) (2 ^ (min (Int.toNat (1)) IntKind.u64.bits))))), (216, Vi (IntKind.i64.wrap ((IntKind.i64.wrap ((IntKind.i64.wrap (Int.fdiv (IntKind.u64.wrap (IntKind.i64.wrap (p1 + p3))) (2 ^ (min (Int.toNat (1)) IntKind.u64.bits)))) + p2)) - start_s20_l68))), (217, Vi p3), (218, (.func (.func 30) #[] #[Vp b_p500 0]))] _ _ _ (by kernel_rfl) ?_
   obtain ⟨x88, hx, h⟩ := bind_some h
   have hpk : MS wj87 ([blk a_p0, [b_p500]] ++ [M]) := hms.pick [some 0, some 1, some 2] _ rfl
   have hsb0 : ∀ x ∈ fl ([blk a_p0, [b_p500]] ++ [M]), x ∈ fl [blk a_p0, [b_p500], M] := pick_sub [some 0, some 1, some 2] _ rfl
   have hsb : ∀ x ∈ fl ([blk a_p0, [b_p500]] ++ [(fl [M])]), x ∈ fl [blk a_p0, [b_p500], M] := fun x hx => hsb0 x (fl_unfold x hx)
   have hcall := RF_w a_p0 c_p0 d1_j83 (IntKind.i64.wrap (Int.fdiv (IntKind.u64.wrap (IntKind.i64.wrap (p1 + p3))) (2 ^ (min (Int.toNat (1)) IntKind.u64.bits)))) (IntKind.i64.wrap ((IntKind.i64.wrap ((IntKind.i64.wrap (Int.fdiv (IntKind.u64.wrap (IntKind.i64.wrap (p1 + p3))) (2 ^ (min (Int.toNat (1)) IntKind.u64.bits)))) + p2)) - start_s20_l68)) p3 b_p500 a_p500 c_p500 p500 _ wj87 (fl [M]) (hpk.fold (P := [blk a_p0, [b_p500]])) (hs_p0.sub hsb) (hs_p500.sub hsb) hb_p500 hx
   refine x_call 46 #[] #[] [.slice a_p0 (d1_j83).length c_p0, Vi (IntKind.i64.wrap (Int.fdiv (IntKind.u64.wrap (IntKind.i64.wrap (p1 + p3))) (2 ^ (min (Int.toNat (1)) IntKind.u64.bits)))), Vi (IntKind.i64.wrap ((IntKind.i64.wrap ((IntKind.i64.wrap (Int.fdiv (IntKind.u64.wrap (IntKind.i64.wrap (p1 + p3))) (2 ^ (min (Int.toNat (1)) IntKind.u64.bits)))) + p2)) - start_s20_l68)), Vi p3, (.func (.func 30) #[] #[Vp b_p500 0])] _ rfl rfl rfl rfl hcall ?_
   rintro v w89 ⟨rfl, he89, hp89_0, hp89_1, hmn89, hfn89, hnp89⟩
   clear hcall hx
   refine inl1 ?_
   have hpk2 : MS wj87 ([blk a_p0, [b_p500]] ++ [M]) := hms.pick [some 0, some 1, some 2] _ rfl
   have hsb2 : ∀ x ∈ fl ([blk a_p0, [b_p500]] ++ [M]), x ∈ fl [blk a_p0, [b_p500], M] := pick_sub [some 0, some 1, some 2] _ rfl
   have hst0 := Stp.call (LS := [blk a_p0, [b_p500], M]) (res := []) (par := [blk a_p0, [b_p500]]) (R := [M]) he89 (fun b hb => hsb2 b (fl_left' (P := [blk a_p0, [b_p500]]) b hb)) hfn89 hnp89 (fun x hx => hsb2 x (fl_right' (P := [blk a_p0, [b_p500]]) x hx))
   have hsn : ∀ x ∈ fl [blk a_p0, [b_p500], M], x ∈ fl ([] ++ ([blk a_p0, [b_p500]] ++ [M])) := pick_sub [some 0, some 1, some 2] _ rfl
   have hst := hst0.res hsn
   replace hs_p500 := hs_p500.step hst
   replace hms : MS w89 [blk a_p0, [b_p500], M] := (MS.call (P := [blk a_p0, [b_p500]]) (R := [M]) (res := []) (par := [blk a_p0, [b_p500]]) hpk2 he89 hmn89 hfn89 hnp89).pick [some 0, some 1, some 2] _ rfl
   have hPf : ∀ b ∈ fl [blk a_p0, [b_p500]], b ∈ (fl [blk a_p0, [b_p500]]) ∨ w.heap.size ≤ b := NP.mem (ls := [blk a_p0, [b_p500]]) (hpr.pick [some 0, some 1] _ rfl)
   have hpr2 : NP (fl [blk a_p0, [b_p500]]) w.heap.size [blk a_p0, [b_p500]] := (NP.cons (fun b hb => (hnp89.at 0 rfl b hb).elim (fun h => hPf b h) (fun h => .inr (Nat.le_trans hev.size h))) (NP.cons (fun b hb => (hnp89.at 1 rfl b hb).elim (fun h => hPf b h) (fun h => .inr (Nat.le_trans hev.size h))) (NP.nil _ _)))
   replace hev := hev.then he89 hPf
   replace hpr := hpr2
   clear hpr2
   replace hb_p500 := hp89_1
   replace hs_p0 := OwnS.plain (M' := fl [blk a_p0, [b_p500], M]) (plain_int _) hp89_0
   clear hpk hsb hsb0 hpk2 hsb2 hst0 hsn hst
   have hgl := guard_l h
   replace h := guard_r h
   have hsl : (Value.slice a_p0 (d1_j83).length c_p0) = (Value.slice a_p0 (x88).length c_p0) := by first | (rw [hgl]; done) | simp only [hgl]
   try rw [hsl]
   clear hsl
   refine x_end rfl ?_
   refine r_normal (r_vals [] trivial ?_)
   have hx := some_inj h
   subst hx
   have hmr : MS w89 [blk a_p0, [b_p500], M] := hms.pick [some 0, some 1, some 2] _ rfl
   have hsu : ∀ x ∈ fl [blk a_p0, [b_p500], M], x ∈ fl [blk a_p0, [b_p500], M] := pick_sub [some 0, some 1, some 2] _ rfl
   have hfe : FR w.heap.size [] := hfr.pick [] _ rfl
   exact ⟨rfl, hev, hs_p0.sub hsu, hb_p500, hmr, hfe, (NP.cons (hpr.at 0 rfl) (NP.cons (hpr.at 1 rfl) (NP.nil _ _)))⟩
 replace h := ite_f hb h
 refine c_skip ?_
 refine r_normal (r_vals [] trivial ?_)
 have hx := some_inj h
 subst hx
 have hmr : MS wj87 [blk a_p0, [b_p500], M] := hms.pick [some 0, some 1, some 2] _ rfl
 have hsu : ∀ x ∈ fl [blk a_p0, [b_p500], M], x ∈ fl [blk a_p0, [b_p500], M] := pick_sub [some 0, some 1, some 2] _ rfl
 have hfe : FR w.heap.size [] := hfr.pick [] _ rfl
 exact ⟨rfl, hev, hs_p0.sub hsu, hb_p500, hmr, hfe, (NP.cons (hpr.at 0 rfl) (NP.cons (hpr.at 1 rfl) (NP.nil _ _)))⟩

def slices_symMergeCmpFunc_int__n : Nat → (List Int) → Int → Int → Int → (List Int) → Option (List Int)
| 0 => fun _ _ _ _ _ => none
| n + 1 => slices_symMergeCmpFunc_int__b (slices_symMergeCmpFunc_int__n n)
theorem slices_symMergeCmpFunc_int__nw : ∀ (n : Nat) (a_p0 : Option Addr) (c_p0 : Nat) (p0 : List Int) (p1 : Int) (p2 : Int) (p3 : Int) (b_p500 : Nat) (a_p500 : Option Addr) (c_p500 : Nat) (p500 : List Int) (r : (List Int)) (w : World) (M : List Nat) (hms : MS w [blk a_p0, [b_p500], M]) (hs_p0 : OwnS (eInt .i64) 3 w (fl [blk a_p0, [b_p500], M]) a_p0 c_p0 p0) (hs_p500 : SlR (eInt .i64) w (fl [blk a_p0, [b_p500], M]) a_p500 c_p500 p500) (hb_p500 : w.heap[b_p500]? = some (.cells #[.slice a_p500 (p500).length c_p500] 22 (0, 0))) (h : slices_symMergeCmpFunc_int__n n p0 p1 p2 p3 p500 = some r), CallVC Try.prog 46 [.slice a_p0 (p0).length c_p0, Vi p1, Vi p2, Vi p3, (.func (.func 30) #[] #[Vp b_p500 0])] w fun v w' => v = .tuple #[] ∧ Ev (fl [blk a_p0, [b_p500]]) w w' ∧ OwnS (eInt .i64) 3 w' (fl [blk a_p0, [b_p500], M]) a_p0 c_p0 r ∧ w'.heap[b_p500]? = some (.cells #[.slice a_p500 (p500).length c_p500] 22 (0, 0)) ∧ MS w' [blk a_p0, [b_p500], M] ∧ FR w.heap.size [] ∧ NP (fl [blk a_p0, [b_p500]]) w.heap.size [blk a_p0, [b_p500]] := by
 intro n
 induction n with
 | zero => intros; rename_i h; cases h
 | succ n ih => exact slices_symMergeCmpFunc_int__bw (slices_symMergeCmpFunc_int__n n) ih
def slices_symMergeCmpFunc_int_ : (List Int) → Int → Int → Int → (List Int) → Option (List Int) := slices_symMergeCmpFunc_int__n 100
theorem slices_symMergeCmpFunc_int__w (a_p0 : Option Addr) (c_p0 : Nat) (p0 : List Int) (p1 : Int) (p2 : Int) (p3 : Int) (b_p500 : Nat) (a_p500 : Option Addr) (c_p500 : Nat) (p500 : List Int) (r : (List Int)) (w : World) (M : List Nat) (hms : MS w [blk a_p0, [b_p500], M]) (hs_p0 : OwnS (eInt .i64) 3 w (fl [blk a_p0, [b_p500], M]) a_p0 c_p0 p0) (hs_p500 : SlR (eInt .i64) w (fl [blk a_p0, [b_p500], M]) a_p500 c_p500 p500) (hb_p500 : w.heap[b_p500]? = some (.cells #[.slice a_p500 (p500).length c_p500] 22 (0, 0))) (h : slices_symMergeCmpFunc_int_ p0 p1 p2 p3 p500 = some r) : CallVC Try.prog 46 [.slice a_p0 (p0).length c_p0, Vi p1, Vi p2, Vi p3, (.func (.func 30) #[] #[Vp b_p500 0])] w fun v w' => v = .tuple #[] ∧ Ev (fl [blk a_p0, [b_p500]]) w w' ∧ OwnS (eInt .i64) 3 w' (fl [blk a_p0, [b_p500], M]) a_p0 c_p0 r ∧ w'.heap[b_p500]? = some (.cells #[.slice a_p500 (p500).length c_p500] 22 (0, 0)) ∧ MS w' [blk a_p0, [b_p500], M] ∧ FR w.heap.size [] ∧ NP (fl [blk a_p0, [b_p500]]) w.heap.size [blk a_p0, [b_p500]] := slices_symMergeCmpFunc_int__nw 100 a_p0 c_p0 p0 p1 p2 p3 b_p500 a_p500 c_p500 p500 r w M hms hs_p0 hs_p500 hb_p500 h

def slices_stableCmpFunc_int__L14 (p1 : Int) (p300 : List Int) (blockSize_s6_l11 : Int) (s : (List Int) × Int × Int) : Option (Step ((List Int) × Int × Int) ((List Int) × Int)) :=
match s with
| (d1_l14, a_s7_l14, b_s8_l14) =>
(if (decide (b_s8_l14 ≤ p1)) = true then
((slices_symMergeCmpFunc_int_ d1_l14 a_s7_l14 (IntKind.i64.wrap (a_s7_l14 + blockSize_s6_l11)) b_s8_l14 p300).bind fun x16 =>
(if x16.length = d1_l14.length then
some (.next (x16, b_s8_l14, IntKind.i64.wrap (b_s8_l14 + (IntKind.i64.wrap (2 * blockSize_s6_l11)))))
else none))
else
some (.done (d1_l14, a_s7_l14)))

def slices_stableCmpFunc_int__L11 (p1 : Int) (p300 : List Int) (s : (List Int) × Int) : Option (Step ((List Int) × Int) (List Int)) :=
match s with
| (d1_l11, blockSize_s6_l11) =>
(if (decide (blockSize_s6_l11 < p1)) = true then
((loop (slices_stableCmpFunc_int__L14 p1 p300 blockSize_s6_l11) (d1_l11, 0, IntKind.i64.wrap (2 * blockSize_s6_l11))).bind fun d => match d with
| (d1_x14, a_s7_x14) => (if (decide ((IntKind.i64.wrap (a_s7_x14 + blockSize_s6_l11)) < p1)) = true then
((slices_symMergeCmpFunc_int_ d1_x14 a_s7_x14 (IntKind.i64.wrap (a_s7_x14 + blockSize_s6_l11)) p1 p300).bind fun x18 =>
(if x18.length = d1_x14.length then
some (.next (x18, IntKind.i64.wrap (blockSize_s6_l11 * 2)))
else none))
else
some (.next (d1_x14, IntKind.i64.wrap (blockSize_s6_l11 * 2)))))
else
some (.done d1_l11))

def slices_stableCmpFunc_int__L5 (p1 : Int) (p300 : List Int) (s : (List Int) × Int × Int) : Option (Step ((List Int) × Int × Int) ((List Int) × Int)) :=
match s with
| (d1_l5, a_s7_l5, b_s8_l5) =>
(if (decide (b_s8_l5 ≤ p1)) = true then
((slices_insertionSortCmpFunc_int_ d1_l5 a_s7_l5 b_s8_l5 p300).bind fun x7 =>
(if x7.length = d1_l5.length then
some (.next (x7, b_s8_l5, IntKind.i64.wrap (b_s8_l5 + 20)))
else none))
else
some (.done (d1_l5, a_s7_l5)))

def slices_stableCmpFunc_int_ (p0 : List Int) (p1 : Int) (p300 : List Int) : Option (List Int) :=
((loop (slices_stableCmpFunc_int__L5 p1 p300) (p0, 0, 20)).bind fun d => match d with
| (d1_x5, a_s7_x5) => ((slices_insertionSortCmpFunc_int_ d1_x5 a_s7_x5 p1 p300).bind fun x9 =>
(if x9.length = d1_x5.length then
((loop (slices_stableCmpFunc_int__L11 p1 p300) (x9, 20)).bind fun d => match d with
| d1_x11 => some d1_x11)
else none)))

theorem slices_stableCmpFunc_int__w (a_p0 : Option Addr) (c_p0 : Nat) (p0 : List Int) (p1 : Int) (b_p300 : Nat) (a_p300 : Option Addr) (c_p300 : Nat) (p300 : List Int) (r : (List Int)) (w : World) (M : List Nat) (hms : MS w [blk a_p0, [b_p300], M]) (hs_p0 : OwnS (eInt .i64) 3 w (fl [blk a_p0, [b_p300], M]) a_p0 c_p0 p0) (hs_p300 : SlR (eInt .i64) w (fl [blk a_p0, [b_p300], M]) a_p300 c_p300 p300) (hb_p300 : w.heap[b_p300]? = some (.cells #[.slice a_p300 (p300).length c_p300] 22 (0, 0))) (h : slices_stableCmpFunc_int_ p0 p1 p300 = some r) : CallVC Try.prog 33 [.slice a_p0 (p0).length c_p0, Vi p1, (.func (.func 30) #[] #[Vp b_p300 0])] w fun v w' => v = .tuple #[] ∧ Ev (fl [blk a_p0, [b_p300]]) w w' ∧ OwnS (eInt .i64) 3 w' (fl [blk a_p0, [b_p300], M]) a_p0 c_p0 r ∧ w'.heap[b_p300]? = some (.cells #[.slice a_p300 (p300).length c_p300] 22 (0, 0)) ∧ MS w' [blk a_p0, [b_p300], M] ∧ FR w.heap.size [] ∧ NP (fl [blk a_p0, [b_p300]]) w.heap.size [blk a_p0, [b_p300]] := by
 refine calls_vc hmx Try.func33 (by kernel_rfl) rfl (rs := []) rfl (by kernel_rfl) (args := [.slice a_p0 (p0).length c_p0, Vi p1, (.func (.func 30) #[] #[Vp b_p300 0])]) rfl ?_
 have hev : Ev (fl [blk a_p0, [b_p300]]) w w := Ev.refl _ _
 have hfr : FR w.heap.size [] := FR.nil _
 have hpr : NP (fl [blk a_p0, [b_p300]]) w.heap.size [blk a_p0, [b_p300]] := NP.init _ _
 refine c_sp ?_
 refine x_pure 1 [(6, Vi 20)] _ _ _ (by kernel_rfl) ?_
 refine x_ek ?_
 refine c_sp ?_
 refine x_pure 3 [(10, Vi 20), (7, Vi 0), (8, Vi 20)] _ _ _ (by kernel_rfl) ?_
 refine x_ek ?_
 refine c_seq ?_
 refine c_block ?_
 obtain ⟨d5, hd5, h5⟩ := bind_some h
 obtain ⟨m5, hd5⟩ := loop_some hd5
 refine c_loop (loop_rule hmx (σ := Nat × (List Int) × Int × Int) (fun s => match s with | (_, d1_l5, a_s7_l5, b_s8_l5) => [(0, .slice a_p0 (d1_l5).length c_p0), (1, Vi p1), (2, (.func (.func 30) #[] #[Vp b_p300 0])), (6, Vi 20), (7, Vi a_s7_l5), (8, Vi b_s8_l5)]) (fun s w' => match s with | (m, d1_l5, a_s7_l5, b_s8_l5) => loopN (slices_stableCmpFunc_int__L5 p1 p300) m (d1_l5, a_s7_l5, b_s8_l5) = some d5 ∧ Ev (fl [blk a_p0, [b_p300]]) w w' ∧ MS w' [blk a_p0, [b_p300], M] ∧ FR w.heap.size [] ∧ NP (fl [blk a_p0, [b_p300]]) w.heap.size [blk a_p0, [b_p300]] ∧ OwnS (eInt .i64) 3 w' (fl [blk a_p0, [b_p300], M]) a_p0 c_p0 d1_l5 ∧ SlR (eInt .i64) w' (fl [blk a_p0, [b_p300], M]) a_p300 c_p300 p300 ∧ w'.heap[b_p300]? = some (.cells #[.slice a_p300 (p300).length c_p300] 22 (0, 0))) (fun s => s.1) (m5, p0, 0, 20) ⟨rfl, rfl, rfl, rfl, rfl, rfl, trivial⟩ ⟨hd5, hev, hms, hfr, hpr, hs_p0, hs_p300, hb_p300⟩ ?_)
 rintro ⟨m5, d1_l5, a_s7_l5, b_s8_l5⟩ J wl5 ⟨hn5, hev, hms, hfr, hpr, hs_p0, hs_p300, hb_p300⟩
 rcases m5 with _ | m5
 · exact (loopN_zero hn5).elim
 obtain ⟨t5, h, hn5⟩ := bind_some hn5
 refine c_seq ?_
 refine c_sp ?_
 refine x_pure 3 [(11, Vi b_s8_l5), (12, Vi p1), (13, .bool (decide (b_s8_l5 ≤ p1)))] _ _ _ (by kernel_rfl) ?_
 refine x_ek ?_
 refine c_norm [(0, .slice a_p0 (d1_l5).length c_p0), (1, Vi p1), (2, (.func (.func 30) #[] #[Vp b_p300 0])), (6, Vi 20), (7, Vi a_s7_l5), (8, Vi b_s8_l5), (13, .bool (decide (b_s8_l5 ≤ p1)))] ⟨rfl, rfl, rfl, rfl, rfl, rfl, rfl, trivial⟩ (fun J => ?_)
 refine c_cond (decide (b_s8_l5 ≤ p1)) rfl (fun hb => ?_) (fun hb => ?_)
 · replace h := ite_t hb h
   refine c_skip ?_
   refine k_then ?_
   refine c_block ?_
   refine c_sp ?_
   refine x_pure 4 [(14, .slice a_p0 (d1_l5).length c_p0), (15, Vi a_s7_l5), (16, Vi b_s8_l5), (17, (.func (.func 30) #[] #[Vp b_p300 0]))] _ _ _ (by kernel_rfl) ?_
   obtain ⟨x7, hx, h⟩ := bind_some h
   have hpk : MS wl5 ([blk a_p0, [b_p300]] ++ [M]) := hms.pick [some 0, some 1, some 2] _ rfl
   have hsb0 : ∀ x ∈ fl ([blk a_p0, [b_p300]] ++ [M]), x ∈ fl [blk a_p0, [b_p300], M] := pick_sub [some 0, some 1, some 2] _ rfl
   have hsb : ∀ x ∈ fl ([blk a_p0, [b_p300]] ++ [(fl [M])]), x ∈ fl [blk a_p0, [b_p300], M] := fun x hx => hsb0 x (fl_unfold x hx)
   have hcall := slices_insertionSortCmpFunc_int__w a_p0 c_p0 d1_l5 a_s7_l5 b_s8_l5 b_p300 a_p300 c_p300 p300 _ wl5 (fl [M]) (hpk.fold (P := [blk a_p0, [b_p300]])) (hs_p0.sub hsb) (hs_p300.sub hsb) hb_p300 hx
   refine x_call 45 #[] #[] [.slice a_p0 (d1_l5).length c_p0, Vi a_s7_l5, Vi b_s8_l5, (.func (.func 30) #[] #[Vp b_p300 0])] _ rfl rfl rfl rfl hcall ?_
   rintro v w8 ⟨rfl, he8, hp8_0, hp8_1, hmn8, hfn8, hnp8⟩
   clear hcall hx
   refine inl1 ?_
   have hpk2 : MS wl5 ([blk a_p0, [b_p300]] ++ [M]) := hms.pick [some 0, some 1, some 2] _ rfl
   have hsb2 : ∀ x ∈ fl ([blk a_p0, [b_p300]] ++ [M]), x ∈ fl [blk a_p0, [b_p300], M] := pick_sub [some 0, some 1, some 2] _ rfl
   have hst0 := Stp.call (LS := [blk a_p0, [b_p300], M]) (res := []) (par := [blk a_p0, [b_p300]]) (R := [M]) he8 (fun b hb => hsb2 b (fl_left' (P := [blk a_p0, [b_p300]]) b hb)) hfn8 hnp8 (fun x hx => hsb2 x (fl_right' (P := [blk a_p0, [b_p300]]) x hx))
   have hsn : ∀ x ∈ fl [blk a_p0, [b_p300], M], x ∈ fl ([] ++ ([blk a_p0, [b_p300]] ++ [M])) := pick_sub [some 0, some 1, some 2] _ rfl
   have hst := hst0.res hsn
   replace hs_p300 := hs_p300.step hst
   replace hms : MS w8 [blk a_p0, [b_p300], M] := (MS.call (P := [blk a_p0, [b_p300]]) (R := [M]) (res := []) (par := [blk a_p0, [b_p300]]) hpk2 he8 hmn8 hfn8 hnp8).pick [some 0, some 1, some 2] _ rfl
   have hPf : ∀ b ∈ fl [blk a_p0, [b_p300]], b ∈ (fl [blk a_p0, [b_p300]]) ∨ w.heap.size ≤ b := NP.mem (ls := [blk a_p0, [b_p300]]) (hpr.pick [some 0, some 1] _ rfl)
   have hpr2 : NP (fl [blk a_p0, [b_p300]]) w.heap.size [blk a_p0, [b_p300]] := (NP.cons (fun b hb => (hnp8.at 0 rfl b hb).elim (fun h => hPf b h) (fun h => .inr (Nat.le_trans hev.size h))) (NP.cons (fun b hb => (hnp8.at 1 rfl b hb).elim (fun h => hPf b h) (fun h => .inr (Nat.le_trans hev.size h))) (NP.nil _ _)))
   replace hev := hev.then he8 hPf
   replace hpr := hpr2
   clear hpr2
   replace hb_p300 := hp8_1
   replace hs_p0 := OwnS.plain (M' := fl [blk a_p0, [b_p300], M]) (plain_int _) hp8_0
   clear hpk hsb hsb0 hpk2 hsb2 hst0 hsn hst
   have hgl := guard_l h
   replace h := guard_r h
   have hsl : (Value.slice a_p0 (d1_l5).length c_p0) = (Value.slice a_p0 (x7).length c_p0) := by first | (rw [hgl]; done) | simp only [hgl]
   try rw [hsl]
   clear hsl
   refine x_ek ?_
   refine c_sp ?_
   refine x_pure 2 [(19, Vi b_s8_l5), (7, Vi b_s8_l5)] _ _ _ (by kernel_rfl) ?_
   refine x_ek ?_
   refine c_plain ?_
   refine x_pure 4 [(20, Vi b_s8_l5), (21, Vi 20), (22, Vi (IntKind.i64.wrap (b_s8_l5 + 20))), (8, Vi (IntKind.i64.wrap (b_s8_l5 + 20)))] _ _ _ (by kernel_rfl) ?_
   refine x_end rfl ?_
   refine k_block ?_
   have hx := some_inj h
   subst hx
   exact k_then ⟨(m5, x7, b_s8_l5, IntKind.i64.wrap (b_s8_l5 + 20)), ⟨rfl, rfl, rfl, rfl, rfl, rfl, trivial⟩, ⟨hn5, hev, hms, hfr, hpr, hs_p0, hs_p300, hb_p300⟩, Nat.lt_succ_self _⟩
 replace h := ite_f hb h
 refine c_exit ?_
 refine k_then_exit ?_
 have hx := some_inj h
 subst hx
 have hy := some_inj hn5
 subst hy
 replace h := h5
 refine k_then_exit ?_
 refine k_block_in ?_
 refine k_then ?_
 refine c_norm [(0, .slice a_p0 (d1_l5).length c_p0), (1, Vi p1), (2, (.func (.func 30) #[] #[Vp b_p300 0])), (6, Vi 20), (7, Vi a_s7_l5)] ⟨rfl, rfl, rfl, rfl, rfl, trivial⟩ (fun J => ?_)
 refine c_sp ?_
 refine x_pure 4 [(23, .slice a_p0 (d1_l5).length c_p0), (24, Vi a_s7_l5), (25, Vi p1), (26, (.func (.func 30) #[] #[Vp b_p300 0]))] _ _ _ (by kernel_rfl) ?_
 obtain ⟨x9, hx, h⟩ := bind_some h
 have hpk : MS wl5 ([blk a_p0, [b_p300]] ++ [M]) := hms.pick [some 0, some 1, some 2] _ rfl
 have hsb0 : ∀ x ∈ fl ([blk a_p0, [b_p300]] ++ [M]), x ∈ fl [blk a_p0, [b_p300], M] := pick_sub [some 0, some 1, some 2] _ rfl
 have hsb : ∀ x ∈ fl ([blk a_p0, [b_p300]] ++ [(fl [M])]), x ∈ fl [blk a_p0, [b_p300], M] := fun x hx => hsb0 x (fl_unfold x hx)
 have hcall := slices_insertionSortCmpFunc_int__w a_p0 c_p0 d1_l5 a_s7_l5 p1 b_p300 a_p300 c_p300 p300 _ wl5 (fl [M]) (hpk.fold (P := [blk a_p0, [b_p300]])) (hs_p0.sub hsb) (hs_p300.sub hsb) hb_p300 hx
 refine x_call 45 #[] #[] [.slice a_p0 (d1_l5).length c_p0, Vi a_s7_l5, Vi p1, (.func (.func 30) #[] #[Vp b_p300 0])] _ rfl rfl rfl rfl hcall ?_
 rintro v w10 ⟨rfl, he10, hp10_0, hp10_1, hmn10, hfn10, hnp10⟩
 clear hcall hx
 refine inl1 ?_
 have hpk2 : MS wl5 ([blk a_p0, [b_p300]] ++ [M]) := hms.pick [some 0, some 1, some 2] _ rfl
 have hsb2 : ∀ x ∈ fl ([blk a_p0, [b_p300]] ++ [M]), x ∈ fl [blk a_p0, [b_p300], M] := pick_sub [some 0, some 1, some 2] _ rfl
 have hst0 := Stp.call (LS := [blk a_p0, [b_p300], M]) (res := []) (par := [blk a_p0, [b_p300]]) (R := [M]) he10 (fun b hb => hsb2 b (fl_left' (P := [blk a_p0, [b_p300]]) b hb)) hfn10 hnp10 (fun x hx => hsb2 x (fl_right' (P := [blk a_p0, [b_p300]]) x hx))
 have hsn : ∀ x ∈ fl [blk a_p0, [b_p300], M], x ∈ fl ([] ++ ([blk a_p0, [b_p300]] ++ [M])) := pick_sub [some 0, some 1, some 2] _ rfl
 have hst := hst0.res hsn
 replace hs_p300 := hs_p300.step hst
 replace hms : MS w10 [blk a_p0, [b_p300], M] := (MS.call (P := [blk a_p0, [b_p300]]) (R := [M]) (res := []) (par := [blk a_p0, [b_p300]]) hpk2 he10 hmn10 hfn10 hnp10).pick [some 0, some 1, some 2] _ rfl
 have hPf : ∀ b ∈ fl [blk a_p0, [b_p300]], b ∈ (fl [blk a_p0, [b_p300]]) ∨ w.heap.size ≤ b := NP.mem (ls := [blk a_p0, [b_p300]]) (hpr.pick [some 0, some 1] _ rfl)
 have hpr2 : NP (fl [blk a_p0, [b_p300]]) w.heap.size [blk a_p0, [b_p300]] := (NP.cons (fun b hb => (hnp10.at 0 rfl b hb).elim (fun h => hPf b h) (fun h => .inr (Nat.le_trans hev.size h))) (NP.cons (fun b hb => (hnp10.at 1 rfl b hb).elim (fun h => hPf b h) (fun h => .inr (Nat.le_trans hev.size h))) (NP.nil _ _)))
 replace hev := hev.then he10 hPf
 replace hpr := hpr2
 clear hpr2
 replace hb_p300 := hp10_1
 replace hs_p0 := OwnS.plain (M' := fl [blk a_p0, [b_p300], M]) (plain_int _) hp10_0
 clear hpk hsb hsb0 hpk2 hsb2 hst0 hsn hst
 have hgl := guard_l h
 replace h := guard_r h
 have hsl : (Value.slice a_p0 (d1_l5).length c_p0) = (Value.slice a_p0 (x9).length c_p0) := by first | (rw [hgl]; done) | simp only [hgl]
 try rw [hsl]
 clear hsl
 refine x_ek ?_
 refine c_block ?_
 obtain ⟨d11, hd11, h11⟩ := bind_some h
 obtain ⟨m11, hd11⟩ := loop_some hd11
 refine c_loop (loop_rule hmx (σ := Nat × (List Int) × Int) (fun s => match s with | (_, d1_l11, blockSize_s6_l11) => [(0, .slice a_p0 (d1_l11).length c_p0), (1, Vi p1), (2, (.func (.func 30) #[] #[Vp b_p300 0])), (6, Vi blockSize_s6_l11)]) (fun s w' => match s with | (m, d1_l11, blockSize_s6_l11) => loopN (slices_stableCmpFunc_int__L11 p1 p300) m (d1_l11, blockSize_s6_l11) = some d11 ∧ Ev (fl [blk a_p0, [b_p300]]) w w' ∧ MS w' [blk a_p0, [b_p300], M] ∧ FR w.heap.size [] ∧ NP (fl [blk a_p0, [b_p300]]) w.heap.size [blk a_p0, [b_p300]] ∧ OwnS (eInt .i64) 3 w' (fl [blk a_p0, [b_p300], M]) a_p0 c_p0 d1_l11 ∧ SlR (eInt .i64) w' (fl [blk a_p0, [b_p300], M]) a_p300 c_p300 p300 ∧ w'.heap[b_p300]? = some (.cells #[.slice a_p300 (p300).length c_p300] 22 (0, 0))) (fun s => s.1) (m11, x9, 20) ⟨rfl, rfl, rfl, rfl, trivial⟩ ⟨hd11, hev, hms, hfr, hpr, hs_p0, hs_p300, hb_p300⟩ ?_)
 rintro ⟨m11, d1_l11, blockSize_s6_l11⟩ J wl11 ⟨hn11, hev, hms, hfr, hpr, hs_p0, hs_p300, hb_p300⟩
 rcases m11 with _ | m11
 · exact (loopN_zero hn11).elim
 obtain ⟨t11, h, hn11⟩ := bind_some hn11
 refine c_seq ?_
 refine c_sp ?_
 refine x_pure 3 [(28, Vi blockSize_s6_l11), (29, Vi p1), (30, .bool (decide (blockSize_s6_l11 < p1)))] _ _ _ (by kernel_rfl) ?_
 refine x_ek ?_
 refine c_norm [(0, .slice a_p0 (d1_l11).length c_p0), (1, Vi p1), (2, (.func (.func 30) #[] #[Vp b_p300 0])), (6, Vi blockSize_s6_l11), (30, .bool (decide (blockSize_s6_l11 < p1)))] ⟨rfl, rfl, rfl, rfl, rfl, trivial⟩ (fun J => ?_)
 refine c_cond (decide (blockSize_s6_l11 < p1)) rfl (fun hb => ?_) (fun hb => ?_)
 · replace h := ite_t hb h
   refine c_skip ?_
   refine k_then ?_
   refine c_block ?_
   refine c_sp ?_
   refine x_pure 4 [(31, Vi blockSize_s6_l11), (32, Vi (IntKind.i64.wrap (2 * blockSize_s6_l11))), (7, Vi 0), (8, Vi (IntKind.i64.wrap (2 * blockSize_s6_l11)))] _ _ _ (by kernel_rfl) ?_
   refine x_ek ?_
   refine c_seq ?_
   refine c_block ?_
   obtain ⟨d14, hd14, h14⟩ := bind_some h
   obtain ⟨m14, hd14⟩ := loop_some hd14
   refine c_loop (loop_rule hmx (σ := Nat × (List Int) × Int × Int) (fun s => match s with | (_, d1_l14, a_s7_l14, b_s8_l14) => [(0, .slice a_p0 (d1_l14).length c_p0), (1, Vi p1), (2, (.func (.func 30) #[] #[Vp b_p300 0])), (6, Vi blockSize_s6_l11), (7, Vi a_s7_l14), (8, Vi b_s8_l14)]) (fun s w' => match s with | (m, d1_l14, a_s7_l14, b_s8_l14) => loopN (slices_stableCmpFunc_int__L14 p1 p300 blockSize_s6_l11) m (d1_l14, a_s7_l14, b_s8_l14) = some d14 ∧ Ev (fl [blk a_p0, [b_p300]]) w w' ∧ MS w' [blk a_p0, [b_p300], M] ∧ FR w.heap.size [] ∧ NP (fl [blk a_p0, [b_p300]]) w.heap.size [blk a_p0, [b_p300]] ∧ OwnS (eInt .i64) 3 w' (fl [blk a_p0, [b_p300], M]) a_p0 c_p0 d1_l14 ∧ SlR (eInt .i64) w' (fl [blk a_p0, [b_p300], M]) a_p300 c_p300 p300 ∧ w'.heap[b_p300]? = some (.cells #[.slice a_p300 (p300).length c_p300] 22 (0, 0))) (fun s => s.1) (m14, d1_l11, 0, IntKind.i64.wrap (2 * blockSize_s6_l11)) ⟨rfl, rfl, rfl, rfl, rfl, rfl, trivial⟩ ⟨hd14, hev, hms, hfr, hpr, hs_p0, hs_p300, hb_p300⟩ ?_)
   rintro ⟨m14, d1_l14, a_s7_l14, b_s8_l14⟩ J wl14 ⟨hn14, hev, hms, hfr, hpr, hs_p0, hs_p300, hb_p300⟩
   rcases m14 with _ | m14
   · exact (loopN_zero hn14).elim
   obtain ⟨t14, h, hn14⟩ := bind_some hn14
   refine c_seq ?_
   refine c_sp ?_
   refine x_pure 3 [(33, Vi b_s8_l14), (34, Vi p1), (35, .bool (decide (b_s8_l14 ≤ p1)))] _ _ _ (by kernel_rfl) ?_
   refine x_ek ?_
   refine c_norm [(0, .slice a_p0 (d1_l14).length c_p0), (1, Vi p1), (2, (.func (.func 30) #[] #[Vp b_p300 0])), (6, Vi blockSize_s6_l11), (7, Vi a_s7_l14), (8, Vi b_s8_l14), (35, .bool (decide (b_s8_l14 ≤ p1)))] ⟨rfl, rfl, rfl, rfl, rfl, rfl, rfl, trivial⟩ (fun J => ?_)
   refine c_cond (decide (b_s8_l14 ≤ p1)) rfl (fun hb => ?_) (fun hb => ?_)
   · replace h := ite_t hb h
     refine c_skip ?_
     refine k_then ?_
     refine c_block ?_
     refine c_sp ?_
     refine x_pure 7 [(36, .slice a_p0 (d1_l14).length c_p0), (37, Vi a_s7_l14), (38, Vi a_s7_l14), (39, Vi blockSize_s6_l11), (40, Vi (IntKind.i64.wrap (a_s7_l14 + blockSize_s6_l11))), (41, Vi b_s8_l14), (42, (.func (.func 30) #[] #[Vp b_p300 0]))] _ _ _ (by kernel_rfl) ?_
     obtain ⟨x16, hx, h⟩ := bind_some h
     have hpk : MS wl14 ([blk a_p0, [b_p300]] ++ [M]) := hms.pick [some 0, some 1, some 2] _ rfl
     have hsb0 : ∀ x ∈ fl ([blk a_p0, [b_p300]] ++ [M]), x ∈ fl [blk a_p0, [b_p300], M] := pick_sub [some 0, some 1, some 2] _ rfl
     have hsb : ∀ x ∈ fl ([blk a_p0, [b_p300]] ++ [(fl [M])]), x ∈ fl [blk a_p0, [b_p300], M] := fun x hx => hsb0 x (fl_unfold x hx)
     have hcall := slices_symMergeCmpFunc_int__w a_p0 c_p0 d1_l14 a_s7_l14 (IntKind.i64.wrap (a_s7_l14 + blockSize_s6_l11)) b_s8_l14 b_p300 a_p300 c_p300 p300 _ wl14 (fl [M]) (hpk.fold (P := [blk a_p0, [b_p300]])) (hs_p0.sub hsb) (hs_p300.sub hsb) hb_p300 hx
     refine x_call 46 #[] #[] [.slice a_p0 (d1_l14).length c_p0, Vi a_s7_l14, Vi (IntKind.i64.wrap (a_s7_l14 + blockSize_s6_l11)), Vi b_s8_l14, (.func (.func 30) #[] #[Vp b_p300 0])] _ rfl rfl rfl rfl hcall ?_
     rintro v w17 ⟨rfl, he17, hp17_0, hp17_1, hmn17, hfn17, hnp17⟩
     clear hcall hx
     refine inl1 ?_
     have hpk2 : MS wl14 ([blk a_p0, [b_p300]] ++ [M]) := hms.pick [some 0, some 1, some 2] _ rfl
     have hsb2 : ∀ x ∈ fl ([blk a_p0, [b_p300]] ++ [M]), x ∈ fl [blk a_p0, [b_p300], M] := pick_sub [some 0, some 1, some 2] _ rfl
     have hst0 := Stp.call (LS := [blk a_p0, [b_p300], M]) (res := []) (par := [blk a_p0, [b_p300]]) (R := [M]) he17 (fun b hb => hsb2 b (fl_left' (P := [blk a_p0, [b_p300]]) b hb)) hfn17 hnp17 (fun x hx => hsb2 x (fl_right' (P := [blk a_p0, [b_p300]]) x hx))
     have hsn : ∀ x ∈ fl [blk a_p0, [b_p300], M], x ∈ fl ([] ++ ([blk a_p0, [b_p300]] ++ [M])) := pick_sub [some 0, some 1, some 2] _ rfl
     have hst := hst0.res hsn
     replace hs_p300 := hs_p300.step hst
     replace hms : MS w17 [blk a_p0, [b_p300], M] := (MS.call (P := [blk a_p0, [b_p300]]) (R := [M]) (res := []) (par := [blk a_p0, [b_p300]]) hpk2 he17 hmn17 hfn17 hnp17).pick [some 0, some 1, some 2] _ rfl
     have hPf : ∀ b ∈ fl [blk a_p0, [b_p300]], b ∈ (fl [blk a_p0, [b_p300]]) ∨ w.heap.size ≤ b := NP.mem (ls := [blk a_p0, [b_p300]]) (hpr.pick [some 0, some 1] _ rfl)
     have hpr2 : NP (fl [blk a_p0, [b_p300]]) w.heap.size [blk a_p0, [b_p300]] := (NP.cons (fun b hb => (hnp17.at 0 rfl b hb).elim (fun h => hPf b h) (fun h => .inr (Nat.le_trans hev.size h))) (NP.cons (fun b hb => (hnp17.at 1 rfl b hb).elim (fun h => hPf b h) (fun h => .inr (Nat.le_trans hev.size h))) (NP.nil _ _)))
     replace hev := hev.then he17 hPf
     replace hpr := hpr2
     clear hpr2
     replace hb_p300 := hp17_1
     replace hs_p0 := OwnS.plain (M' := fl [blk a_p0, [b_p300], M]) (plain_int _) hp17_0
     clear hpk hsb hsb0 hpk2 hsb2 hst0 hsn hst
     have hgl := guard_l h
     replace h := guard_r h
     have hsl : (Value.slice a_p0 (d1_l14).length c_p0) = (Value.slice a_p0 (x16).length c_p0) := by first | (rw [hgl]; done) | simp only [hgl]
     try rw [hsl]
     clear hsl
     refine x_ek ?_
     refine c_sp ?_
     refine x_pure 2 [(44, Vi b_s8_l14), (7, Vi b_s8_l14)] _ _ _ (by kernel_rfl) ?_
     refine x_ek ?_
     refine c_plain ?_
     refine x_pure 5 [(45, Vi b_s8_l14), (46, Vi blockSize_s6_l11), (47, Vi (IntKind.i64.wrap (2 * blockSize_s6_l11))), (48, Vi (IntKind.i64.wrap (b_s8_l14 + (IntKind.i64.wrap (2 * blockSize_s6_l11))))), (8, Vi (IntKind.i64.wrap (b_s8_l14 + (IntKind.i64.wrap (2 * blockSize_s6_l11)))))] _ _ _ (by kernel_rfl) ?_
     refine x_end rfl ?_
     refine k_block ?_
     have hx := some_inj h
     subst hx
     exact k_then ⟨(m14, x16, b_s8_l14, IntKind.i64.wrap (b_s8_l14 + (IntKind.i64.wrap (2 * blockSize_s6_l11)))), ⟨rfl, rfl, rfl, rfl, rfl, rfl, trivial⟩, ⟨hn14, hev, hms, hfr, hpr, hs_p0, hs_p300, hb_p300⟩, Nat.lt_succ_self _⟩
   replace h := ite_f hb h
   refine c_exit ?_
   refine k_then_exit ?_
   have hx := some_inj h
   subst hx
   have hy := some_inj hn14
   subst hy
   replace h := h14
   refine k_then_exit ?_
   refine k_block_in ?_
   refine k_then ?_
   refine c_norm [(0, .slice a_p0 (d1_l14).length c_p0), (1, Vi p1), (2, (.func (.func 30) #[] #[Vp b_p300 0])), (6, Vi blockSize_s6_l11), (7, Vi a_s7_l14)] ⟨rfl, rfl, rfl, rfl, rfl, trivial⟩ (fun J => ?_)
   refine c_seq ?_
   refine c_sp ?_
   refine x_pure 4 [(49, Vi a_s7_l14), (50, Vi blockSize_s6_l11), (51, Vi (IntKind.i64.wrap (a_s7_l14 + blockSize_s6_l11))), (9, Vi (IntKind.i64.wrap (a_s7_l14 + blockSize_s6_l11)))] _ _ _ (by kernel_rfl) ?_
   refine x_ek ?_
   refine c_sp ?_
   refine x_pure 3 [(52, Vi (IntKind.i64.wrap (a_s7_l14 + blockSize_s6_l11))), (53, Vi p1), (54, .bool (decide ((IntKind.i64.wrap (a_s7_l14 + blockSize_s6_l11)) < p1)))] _ _ _ (by kernel_rfl) ?_
   refine x_ek ?_
   refine c_cond (decide ((IntKind.i64.wrap (a_s7_l14 + blockSize_s6_l11)) < p1)) rfl (fun hb => ?_) (fun hb => ?_)
   · replace h := ite_t hb h
     refine c_plain ?_
     refine x_pure 5 [(55, .slice a_p0 (d1_l14).length c_p0), (56, Vi a_s7_l14), (57, Vi (IntKind.i64.wrap (a_s7_l14 + blockSize_s6_l11))), (58, Vi p1), (59, (.func (.func 30) #[] #[Vp b_p300 0]))] _ _ _ (by kernel_rfl) ?_
     obtain ⟨x18, hx, h⟩ := bind_some h
     have hpk : MS wl14 ([blk a_p0, [b_p300]] ++ [M]) := hms.pick [some 0, some 1, some 2] _ rfl
     have hsb0 : ∀ x ∈ fl ([blk a_p0, [b_p300]] ++ [M]), x ∈ fl [blk a_p0, [b_p300], M] := pick_sub [some 0, some 1, some 2] _ rfl
     have hsb : ∀ x ∈ fl ([blk a_p0, [b_p300]] ++ [(fl [M])]), x ∈ fl [blk a_p0, [b_p300], M] := fun x hx => hsb0 x (fl_unfold x hx)
     have hcall := slices_symMergeCmpFunc_int__w a_p0 c_p0 d1_l14 a_s7_l14 (IntKind.i64.wrap (a_s7_l14 + blockSize_s6_l11)) p1 b_p300 a_p300 c_p300 p300 _ wl14 (fl [M]) (hpk.fold (P := [blk a_p0, [b_p300]])) (hs_p0.sub hsb) (hs_p300.sub hsb) hb_p300 hx
     refine x_call 46 #[] #[] [.slice a_p0 (d1_l14).length c_p0, Vi a_s7_l14, Vi (IntKind.i64.wrap (a_s7_l14 + blockSize_s6_l11)), Vi p1, (.func (.func 30) #[] #[Vp b_p300 0])] _ rfl rfl rfl rfl hcall ?_
     rintro v w19 ⟨rfl, he19, hp19_0, hp19_1, hmn19, hfn19, hnp19⟩
     clear hcall hx
     refine inl1 ?_
     have hpk2 : MS wl14 ([blk a_p0, [b_p300]] ++ [M]) := hms.pick [some 0, some 1, some 2] _ rfl
     have hsb2 : ∀ x ∈ fl ([blk a_p0, [b_p300]] ++ [M]), x ∈ fl [blk a_p0, [b_p300], M] := pick_sub [some 0, some 1, some 2] _ rfl
     have hst0 := Stp.call (LS := [blk a_p0, [b_p300], M]) (res := []) (par := [blk a_p0, [b_p300]]) (R := [M]) he19 (fun b hb => hsb2 b (fl_left' (P := [blk a_p0, [b_p300]]) b hb)) hfn19 hnp19 (fun x hx => hsb2 x (fl_right' (P := [blk a_p0, [b_p300]]) x hx))
     have hsn : ∀ x ∈ fl [blk a_p0, [b_p300], M], x ∈ fl ([] ++ ([blk a_p0, [b_p300]] ++ [M])) := pick_sub [some 0, some 1, some 2] _ rfl
     have hst := hst0.res hsn
     replace hs_p300 := hs_p300.step hst
     replace hms : MS w19 [blk a_p0, [b_p300], M] := (MS.call (P := [blk a_p0, [b_p300]]) (R := [M]) (res := []) (par := [blk a_p0, [b_p300]]) hpk2 he19 hmn19 hfn19 hnp19).pick [some 0, some 1, some 2] _ rfl
     have hPf : ∀ b ∈ fl [blk a_p0, [b_p300]], b ∈ (fl [blk a_p0, [b_p300]]) ∨ w.heap.size ≤ b := NP.mem (ls := [blk a_p0, [b_p300]]) (hpr.pick [some 0, some 1] _ rfl)
     have hpr2 : NP (fl [blk a_p0, [b_p300]]) w.heap.size [blk a_p0, [b_p300]] := (NP.cons (fun b hb => (hnp19.at 0 rfl b hb).elim (fun h => hPf b h) (fun h => .inr (Nat.le_trans hev.size h))) (NP.cons (fun b hb => (hnp19.at 1 rfl b hb).elim (fun h => hPf b h) (fun h => .inr (Nat.le_trans hev.size h))) (NP.nil _ _)))
     replace hev := hev.then he19 hPf
     replace hpr := hpr2
     clear hpr2
     replace hb_p300 := hp19_1
     replace hs_p0 := OwnS.plain (M' := fl [blk a_p0, [b_p300], M]) (plain_int _) hp19_0
     clear hpk hsb hsb0 hpk2 hsb2 hst0 hsn hst
     have hgl := guard_l h
     replace h := guard_r h
     have hsl : (Value.slice a_p0 (d1_l14).length c_p0) = (Value.slice a_p0 (x18).length c_p0) := by first | (rw [hgl]; done) | simp only [hgl]
     try rw [hsl]
     clear hsl
     refine x_ek ?_
     refine c_norm [(0, .slice a_p0 (x18).length c_p0), (1, Vi p1), (2, (.func (.func 30) #[] #[Vp b_p300 0])), (6, Vi blockSize_s6_l11)] ⟨rfl, rfl, rfl, rfl, trivial⟩ (fun J => ?_)
     refine c_plain ?_
     refine x_pure 3 [(61, Vi blockSize_s6_l11), (62, Vi (IntKind.i64.wrap (blockSize_s6_l11 * 2))), (6, Vi (IntKind.i64.wrap (blockSize_s6_l11 * 2)))] _ _ _ (by kernel_rfl) ?_
     refine x_end rfl ?_
     refine k_block ?_
     have hx := some_inj h
     subst hx
     exact k_then ⟨(m11, x18, IntKind.i64.wrap (blockSize_s6_l11 * 2)), ⟨rfl, rfl, rfl, rfl, trivial⟩, ⟨hn11, hev, hms, hfr, hpr, hs_p0, hs_p300, hb_p300⟩, Nat.lt_succ_self _⟩
   replace h := ite_f hb h
   refine c_skip ?_
   refine k_then ?_
   refine c_plain ?_
   refine x_pure 3 [(61, Vi blockSize_s6_l11), (62, Vi (IntKind.i64.wrap (blockSize_s6_l11 * 2))), (6, Vi (IntKind.i64.wrap (blockSize_s6_l11 * 2)))] _ _ _ (by kernel_rfl) ?_
   refine x_end rfl ?_
   refine k_block ?_
   have hx := some_inj h
   subst hx
   exact k_then ⟨(m11, d1_l14, IntKind.i64.wrap (blockSize_s6_l11 * 2)), ⟨rfl, rfl, rfl, rfl, trivial⟩, ⟨hn11, hev, hms, hfr, hpr, hs_p0, hs_p300, hb_p300⟩, Nat.lt_succ_self _⟩
 replace h := ite_f hb h
 refine c_exit ?_
 refine k_then_exit ?_
 have hx := some_inj h
 subst hx
 have hy := some_inj hn11
 subst hy
 replace h := h11
 refine k_then_exit ?_
 refine k_block_in ?_
 refine r_normal (r_vals [] trivial ?_)
 have hx := some_inj h
 subst hx
 have hmr : MS wl11 [blk a_p0, [b_p300], M] := hms.pick [some 0, some 1, some 2] _ rfl
 have hsu : ∀ x ∈ fl [blk a_p0, [b_p300], M], x ∈ fl [blk a_p0, [b_p300], M] := pick_sub [some 0, some 1, some 2] _ rfl
 have hfe : FR w.heap.size [] := hfr.pick [] _ rfl
 exact ⟨rfl, hev, hs_p0.sub hsu, hb_p300, hmr, hfe, (NP.cons (hpr.at 0 rfl) (NP.cons (hpr.at 1 rfl) (NP.nil _ _)))⟩
def slices_SortStableFunc_int_int_ (p0 : List Int) (p200 : List Int) : Option (List Int) :=
((slices_stableCmpFunc_int_ p0 ((p0).length : Int) p200).bind fun x4 =>
(if x4.length = p0.length then
some x4
else none))

theorem slices_SortStableFunc_int_int__w (a_p0 : Option Addr) (c_p0 : Nat) (p0 : List Int) (b_p200 : Nat) (a_p200 : Option Addr) (c_p200 : Nat) (p200 : List Int) (r : (List Int)) (w : World) (M : List Nat) (hms : MS w [blk a_p0, [b_p200], M]) (hs_p0 : OwnS (eInt .i64) 3 w (fl [blk a_p0, [b_p200], M]) a_p0 c_p0 p0) (hs_p200 : SlR (eInt .i64) w (fl [blk a_p0, [b_p200], M]) a_p200 c_p200 p200) (hb_p200 : w.heap[b_p200]? = some (.cells #[.slice a_p200 (p200).length c_p200] 22 (0, 0))) (h : slices_SortStableFunc_int_int_ p0 p200 = some r) : CallVC Try.prog 29 [.slice a_p0 (p0).length c_p0, (.func (.func 30) #[] #[Vp b_p200 0])] w fun v w' => v = .tuple #[] ∧ Ev (fl [blk a_p0, [b_p200]]) w w' ∧ OwnS (eInt .i64) 3 w' (fl [blk a_p0, [b_p200], M]) a_p0 c_p0 r ∧ w'.heap[b_p200]? = some (.cells #[.slice a_p200 (p200).length c_p200] 22 (0, 0)) ∧ MS w' [blk a_p0, [b_p200], M] ∧ FR w.heap.size [] ∧ NP (fl [blk a_p0, [b_p200]]) w.heap.size [blk a_p0, [b_p200]] := by
 refine calls_vc hmx Try.func29 (by kernel_rfl) rfl (rs := []) rfl (by kernel_rfl) (args := [.slice a_p0 (p0).length c_p0, (.func (.func 30) #[] #[Vp b_p200 0])]) rfl ?_
 have hev : Ev (fl [blk a_p0, [b_p200]]) w w := Ev.refl _ _
 have hfr : FR w.heap.size [] := FR.nil _
 have hpr : NP (fl [blk a_p0, [b_p200]]) w.heap.size [blk a_p0, [b_p200]] := NP.init _ _
 refine c_plain ?_
 refine x_pure 2 [(4, .slice a_p0 (p0).length c_p0), (5, .slice a_p0 (p0).length c_p0)] _ _ _ (by kernel_rfl) ?_
 refine x_len (vs := [.slice a_p0 (p0).length c_p0]) (Vi ((p0).length : Int)) rfl rfl rfl (reads_len tsl22 _ _ _ _ _) ?_
 refine x_pure 1 [(7, (.func (.func 30) #[] #[Vp b_p200 0]))] _ _ _ (by kernel_rfl) ?_
 obtain ⟨x4, hx, h⟩ := bind_some h
 have hpk : MS w ([blk a_p0, [b_p200]] ++ [M]) := hms.pick [some 0, some 1, some 2] _ rfl
 have hsb0 : ∀ x ∈ fl ([blk a_p0, [b_p200]] ++ [M]), x ∈ fl [blk a_p0, [b_p200], M] := pick_sub [some 0, some 1, some 2] _ rfl
 have hsb : ∀ x ∈ fl ([blk a_p0, [b_p200]] ++ [(fl [M])]), x ∈ fl [blk a_p0, [b_p200], M] := fun x hx => hsb0 x (fl_unfold x hx)
 have hcall := slices_stableCmpFunc_int__w a_p0 c_p0 p0 ((p0).length : Int) b_p200 a_p200 c_p200 p200 _ w (fl [M]) (hpk.fold (P := [blk a_p0, [b_p200]])) (hs_p0.sub hsb) (hs_p200.sub hsb) hb_p200 hx
 refine x_call 33 #[] #[] [.slice a_p0 (p0).length c_p0, Vi ((p0).length : Int), (.func (.func 30) #[] #[Vp b_p200 0])] _ rfl rfl rfl rfl hcall ?_
 rintro v w5 ⟨rfl, he5, hp5_0, hp5_1, hmn5, hfn5, hnp5⟩
 clear hcall hx
 refine inl1 ?_
 have hpk2 : MS w ([blk a_p0, [b_p200]] ++ [M]) := hms.pick [some 0, some 1, some 2] _ rfl
 have hsb2 : ∀ x ∈ fl ([blk a_p0, [b_p200]] ++ [M]), x ∈ fl [blk a_p0, [b_p200], M] := pick_sub [some 0, some 1, some 2] _ rfl
 have hst0 := Stp.call (LS := [blk a_p0, [b_p200], M]) (res := []) (par := [blk a_p0, [b_p200]]) (R := [M]) he5 (fun b hb => hsb2 b (fl_left' (P := [blk a_p0, [b_p200]]) b hb)) hfn5 hnp5 (fun x hx => hsb2 x (fl_right' (P := [blk a_p0, [b_p200]]) x hx))
 have hsn : ∀ x ∈ fl [blk a_p0, [b_p200], M], x ∈ fl ([] ++ ([blk a_p0, [b_p200]] ++ [M])) := pick_sub [some 0, some 1, some 2] _ rfl
 have hst := hst0.res hsn
 replace hs_p200 := hs_p200.step hst
 replace hms : MS w5 [blk a_p0, [b_p200], M] := (MS.call (P := [blk a_p0, [b_p200]]) (R := [M]) (res := []) (par := [blk a_p0, [b_p200]]) hpk2 he5 hmn5 hfn5 hnp5).pick [some 0, some 1, some 2] _ rfl
 have hPf : ∀ b ∈ fl [blk a_p0, [b_p200]], b ∈ (fl [blk a_p0, [b_p200]]) ∨ w.heap.size ≤ b := NP.mem (ls := [blk a_p0, [b_p200]]) (hpr.pick [some 0, some 1] _ rfl)
 have hpr2 : NP (fl [blk a_p0, [b_p200]]) w.heap.size [blk a_p0, [b_p200]] := (NP.cons (fun b hb => (hnp5.at 0 rfl b hb).elim (fun h => hPf b h) (fun h => .inr (Nat.le_trans hev.size h))) (NP.cons (fun b hb => (hnp5.at 1 rfl b hb).elim (fun h => hPf b h) (fun h => .inr (Nat.le_trans hev.size h))) (NP.nil _ _)))
 replace hev := hev.then he5 hPf
 replace hpr := hpr2
 clear hpr2
 replace hb_p200 := hp5_1
 replace hs_p0 := OwnS.plain (M' := fl [blk a_p0, [b_p200], M]) (plain_int _) hp5_0
 clear hpk hsb hsb0 hpk2 hsb2 hst0 hsn hst
 have hgl := guard_l h
 replace h := guard_r h
 have hsl : (Value.slice a_p0 (p0).length c_p0) = (Value.slice a_p0 (x4).length c_p0) := by first | (rw [hgl]; done) | simp only [hgl]
 try rw [hsl]
 clear hsl
 refine x_end rfl ?_
 refine r_normal (r_vals [] trivial ?_)
 have hx := some_inj h
 subst hx
 have hmr : MS w5 [blk a_p0, [b_p200], M] := hms.pick [some 0, some 1, some 2] _ rfl
 have hsu : ∀ x ∈ fl [blk a_p0, [b_p200], M], x ∈ fl [blk a_p0, [b_p200], M] := pick_sub [some 0, some 1, some 2] _ rfl
 have hfe : FR w.heap.size [] := hfr.pick [] _ rfl
 exact ⟨rfl, hev, hs_p0.sub hsu, hb_p200, hmr, hfe, (NP.cons (hpr.at 0 rfl) (NP.cons (hpr.at 1 rfl) (NP.nil _ _)))⟩
end Go.Proofs.Ytdbomhhcebmkpaa
