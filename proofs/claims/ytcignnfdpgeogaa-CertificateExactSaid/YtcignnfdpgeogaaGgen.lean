/- Walks, printed by program: each function returns what the partial function of the same name returns. Conditions: those of each theorem. -/
import Derived.Test.YtcignnfdpgeogaaGT
set_option linter.unusedVariables false
set_option linter.unusedSimpArgs false
set_option maxRecDepth 4000
namespace Go.Proofs.Ytcignnfdpgeogaa
open Go Go.V Go.Proofs
def gen_New (p0 : List Int) : Option ((List Int) × Int) :=
some (p0, 0)

theorem gen_New_w (a_p0 : Option Addr) (c_p0 : Nat) (p0 : List Int) (r : ((List Int) × Int)) (w : World) (M : List Nat) (hms : MS w [M]) (hs_p0 : SlR (eInt .i64) w (fl [M]) a_p0 c_p0 p0) (h : gen_New p0 = some r) : CallVC Try.prog 8 [.slice a_p0 (p0).length c_p0] w fun v w' => ∃ (b0' : Nat), ∃ (a1' : Option Addr), ∃ (c1' : Nat), v = .pointer (some ⟨b0', 0, none⟩) ∧ Ev [] w w' ∧ MS w' [[b0'], M] ∧ FR w.heap.size [[b0']] ∧ w'.heap[b0']? = some (.cells #[.slice a1' (r.1).length c1', Vi r.2] 65 (0, 0)) ∧ SlR (eInt .i64) w' (fl [[b0'], M]) a1' c1' r.1 := by
 refine calls_vc hmx Try.func8 (by kernel_rfl) rfl (rs := [.tmp 2]) rfl (by kernel_rfl) (args := [.slice a_p0 (p0).length c_p0]) rfl ?_
 have hev : Ev [] w w := Ev.refl _ _
 have hfr : FR w.heap.size [] := FR.nil _
 refine c_sp ?_
 refine x_pure 1 [(2, .pointer none)] _ _ _ (by kernel_rfl) ?_
 refine x_ek ?_
 refine c_sp ?_
 refine x_pure 1 [(3, .slice a_p0 (p0).length c_p0)] _ _ _ (by kernel_rfl) ?_
 refine x_build (vs := [(0, .slice a_p0 (p0).length c_p0)]) (.agg #[.slice a_p0 (p0).length c_p0, Vi 0]) rfl rfl rfl (fun _ _ => by kernel_rfl) ?_
 refine x_box (xv := .agg #[.slice a_p0 (p0).length c_p0, Vi 0]) rfl rfl rfl (fun b2 w2 hq2 hb2 he2 hz2 => ?_)
 replace hb2 : w2.heap[b2]? = some (.cells #[.slice a_p0 (p0).length c_p0, Vi 0] 65 (0, 0)) := hb2
 refine inl1 ?_
 have hst := Stp.box (ls := [M]) he2 hq2
 replace hs_p0 := hs_p0.step hst
 replace hms := hms.box he2 hq2 hb2
 replace hfr := hfr.box hev.size hq2
 replace hev := hev.ext he2
 refine x_pure 1 [(2, Vp b2 0)] _ _ _ (by kernel_rfl) ?_
 refine x_ek ?_
 refine c_ret ?_
 refine r_ret (r_vals [Vp b2 0] ⟨rfl, trivial⟩ ?_)
 have hx := some_inj h
 subst hx
 have hmr : MS w2 [[b2], M] := hms.pick [some 0, some 1] _ rfl
 have hsu : ∀ x ∈ fl [[b2], M], x ∈ fl [[b2], M] := pick_sub [some 0, some 1] _ rfl
 have hfe : FR w.heap.size [[b2]] := hfr.pick [some 0] _ rfl
 exact ⟨b2, a_p0, c_p0, rfl, hev, hmr, hfe, hb2, hs_p0.sub hsu⟩
def gen_Maker_Next_J3 (p0_1 : Int) (p1 : Int) (x_s5_j3 : Int) : Option (Int × Int) :=
(if p1 ≠ 0 then
(if (decide ((Int.tmod x_s5_j3 p1) < 0)) = true then
some (IntKind.i64.wrap ((Int.tmod x_s5_j3 p1) + p1), IntKind.i64.wrap (p0_1 + 1))
else
some (Int.tmod x_s5_j3 p1, IntKind.i64.wrap (p0_1 + 1)))
else none)

def gen_Maker_Next (p0_0 : List Int) (p0_1 : Int) (p1 : Int) : Option (Int × Int) :=
(if (decide (((p0_0).length : Int) > 0)) = true then
(if ((p0_0).length : Int) ≠ 0 then
((idx p0_0 (Int.tmod p0_1 ((p0_0).length : Int))).bind fun x4 =>
(if ((p0_0).length : Int) ≠ 0 then
gen_Maker_Next_J3 p0_1 p1 (IntKind.i64.wrap (x4 + (IntKind.i64.wrap ((IntKind.i64.wrap (Int.tdiv p0_1 ((p0_0).length : Int))) * 7919))))
else none))
else none)
else
gen_Maker_Next_J3 p0_1 p1 0)

theorem gen_Maker_Next_w (b_p0 : Nat) (a_p0_0 : Option Addr) (c_p0_0 : Nat) (p0_0 : List Int) (p0_1 : Int) (p1 : Int) (r : Int × Int) (w : World) (M : List Nat) (hms : MS w [[b_p0], M]) (hs_p0_0 : SlR (eInt .i64) w (fl [[b_p0], M]) a_p0_0 c_p0_0 p0_0) (hb_p0 : w.heap[b_p0]? = some (.cells #[.slice a_p0_0 (p0_0).length c_p0_0, Vi p0_1] 65 (0, 0))) (h : gen_Maker_Next p0_0 p0_1 p1 = some r) : CallVC Try.prog 37 [Vp b_p0 0, Vi p1] w fun v w' => v = Vi r.1 ∧ Ev [b_p0] w w' ∧ w'.heap[b_p0]? = some (.cells #[.slice a_p0_0 (p0_0).length c_p0_0, Vi r.2] 65 (0, 0)) := by
 refine calls_vc hmx Try.func37 (by kernel_rfl) rfl (rs := [.tmp 4]) rfl (by kernel_rfl) (args := [Vp b_p0 0, Vi p1]) rfl ?_
 have hev : Ev [b_p0] w w := Ev.refl _ _
 have hfr : FR w.heap.size [] := FR.nil _
 refine c_sp ?_
 refine x_pure 1 [(4, Vi 0)] _ _ _ (by kernel_rfl) ?_
 refine x_ek ?_
 refine c_sp ?_
 refine x_pure 1 [(5, Vi 0)] _ _ _ (by kernel_rfl) ?_
 refine x_ek ?_
 refine c_join (σ := Int) (fun s => match s with | x_s5_j3 => [(0, Vp b_p0 0), (1, Vi p1), (5, Vi x_s5_j3)]) (fun s w' => match s with | x_s5_j3 => gen_Maker_Next_J3 p0_1 p1 x_s5_j3 = some r ∧ Ev [b_p0] w w' ∧ MS w' [[b_p0], M] ∧ FR w.heap.size [] ∧ SlR (eInt .i64) w' (fl [[b_p0], M]) a_p0_0 c_p0_0 p0_0 ∧ w'.heap[b_p0]? = some (.cells #[.slice a_p0_0 (p0_0).length c_p0_0, Vi p0_1] 65 (0, 0))) ?_ ?_
 · refine c_sp ?_
   refine x_pure 2 [(6, Vp b_p0 0), (7, Vp b_p0 0)] _ _ _ (by kernel_rfl) ?_
   refine x_fieldAddr (xv := Vp b_p0 0) (Vp b_p0 0) rfl rfl rfl (reads_field tfld65_0 _ _) ?_
   refine x_load (xv := Vp b_p0 0) (.slice a_p0_0 (p0_0).length c_p0_0) rfl rfl rfl (reads_box tcell22 hb_p0 nn 0 _ rfl) ?_
   refine x_len (vs := [.slice a_p0_0 (p0_0).length c_p0_0]) (Vi ((p0_0).length : Int)) rfl rfl rfl (reads_len tsl22 _ _ _ _ _) ?_
   refine x_pure 1 [(11, .bool (decide (((p0_0).length : Int) > 0)))] _ _ _ (by kernel_rfl) ?_
   refine x_ek ?_
   refine c_cond (decide (((p0_0).length : Int) > 0)) rfl (fun hb => ?_) (fun hb => ?_)
   · replace h := ite_t hb h
     refine c_drawn [] [(0, false), (1, false), (2, false), (3, false), (4, false), (5, false), (6, false), (7, false), (8, false), (9, false), (10, false), (11, false), (12, false), (13, false), (14, false), (15, false), (16, false), (17, false), (18, false), (19, false), (20, false), (21, false), (22, false), (23, false), (24, false), (25, false), (26, false), (27, false), (28, false)] _ (by kernel_rfl) rfl ?_
     have hst := Stp.ext (ls := [[b_p0], M]) (Ev.drew w)
     replace hs_p0_0 := hs_p0_0.step hst
     replace hb_p0 := (Ev.drew w).box hb_p0 nn
     replace hms := hms.ev (Ev.drew w)
     replace hev := hev.ext (Ev.drew w)
     refine x_pure 2 [(12, Vp b_p0 0), (13, Vp b_p0 0)] _ _ _ (by kernel_rfl) ?_
     refine x_fieldAddr (xv := Vp b_p0 0) (Vp b_p0 0) rfl rfl rfl (reads_field tfld65_0 _ _) ?_
     refine x_load (xv := Vp b_p0 0) (.slice a_p0_0 (p0_0).length c_p0_0) rfl rfl rfl (reads_box tcell22 hb_p0 nn 0 _ rfl) ?_
     refine x_pure 2 [(16, Vp b_p0 0), (17, Vp b_p0 0)] _ _ _ (by kernel_rfl) ?_
     refine x_fieldAddr (xv := Vp b_p0 0) (Vp b_p0 1) rfl rfl rfl (reads_field tfld65_1 _ _) ?_
     refine x_load (xv := Vp b_p0 1) (Vi p0_1) rfl rfl rfl (reads_box tcell3 hb_p0 nn 1 _ rfl) ?_
     refine x_pure 2 [(20, Vp b_p0 0), (21, Vp b_p0 0)] _ _ _ (by kernel_rfl) ?_
     refine x_fieldAddr (xv := Vp b_p0 0) (Vp b_p0 0) rfl rfl rfl (reads_field tfld65_0 _ _) ?_
     refine x_load (xv := Vp b_p0 0) (.slice a_p0_0 (p0_0).length c_p0_0) rfl rfl rfl (reads_box tcell22 hb_p0 nn 0 _ rfl) ?_
     refine x_len (vs := [.slice a_p0_0 (p0_0).length c_p0_0]) (Vi ((p0_0).length : Int)) rfl rfl rfl (reads_len tsl22 _ _ _ _ _) ?_
     refine x_binop (Vi (Int.tmod p0_1 ((p0_0).length : Int))) (Vi p0_1) (Vi ((p0_0).length : Int)) rfl rfl rfl rfl (vb_rem (guard_l h)) ?_
     replace h := guard_r h
     obtain ⟨x4, hx4, h⟩ := bind_some h
     obtain ⟨ad4, cs4, hr4, hc4, hR⟩ := reads_index (Mo := []) tsl22 hs_p0_0 hx4
     obtain rfl := hR
     refine x_indexAddr (xv := .slice a_p0_0 (p0_0).length c_p0_0) (yv := Vi (Int.tmod p0_1 ((p0_0).length : Int))) (.pointer (some ad4)) rfl rfl rfl rfl hr4 ?_
     refine x_load (xv := .pointer (some ad4)) (Vi x4) rfl rfl rfl (reads_cell0 tcell3 hc4 (fun _ h => by cases h)) ?_
     refine x_pure 2 [(28, Vp b_p0 0), (29, Vp b_p0 0)] _ _ _ (by kernel_rfl) ?_
     refine x_fieldAddr (xv := Vp b_p0 0) (Vp b_p0 1) rfl rfl rfl (reads_field tfld65_1 _ _) ?_
     refine x_load (xv := Vp b_p0 1) (Vi p0_1) rfl rfl rfl (reads_box tcell3 hb_p0 nn 1 _ rfl) ?_
     refine x_pure 2 [(32, Vp b_p0 0), (33, Vp b_p0 0)] _ _ _ (by kernel_rfl) ?_
     refine x_fieldAddr (xv := Vp b_p0 0) (Vp b_p0 0) rfl rfl rfl (reads_field tfld65_0 _ _) ?_
     refine x_load (xv := Vp b_p0 0) (.slice a_p0_0 (p0_0).length c_p0_0) rfl rfl rfl (reads_box tcell22 hb_p0 nn 0 _ rfl) ?_
     refine x_len (vs := [.slice a_p0_0 (p0_0).length c_p0_0]) (Vi ((p0_0).length : Int)) rfl rfl rfl (reads_len tsl22 _ _ _ _ _) ?_
     refine x_binop (Vi (IntKind.i64.wrap (Int.tdiv p0_1 ((p0_0).length : Int)))) (Vi p0_1) (Vi ((p0_0).length : Int)) rfl rfl rfl rfl (vb_quo (guard_l h)) ?_
     replace h := guard_r h
     refine x_pure 3 [(38, Vi (IntKind.i64.wrap ((IntKind.i64.wrap (Int.tdiv p0_1 ((p0_0).length : Int))) * 7919))), (39, Vi (IntKind.i64.wrap (x4 + (IntKind.i64.wrap ((IntKind.i64.wrap (Int.tdiv p0_1 ((p0_0).length : Int))) * 7919))))), (5, Vi (IntKind.i64.wrap (x4 + (IntKind.i64.wrap ((IntKind.i64.wrap (Int.tdiv p0_1 ((p0_0).length : Int))) * 7919)))))] _ _ _ (by kernel_rfl) ?_
     refine x_end rfl ?_
     exact k_then ⟨IntKind.i64.wrap (x4 + (IntKind.i64.wrap ((IntKind.i64.wrap (Int.tdiv p0_1 ((p0_0).length : Int))) * 7919))), ⟨rfl, rfl, rfl, trivial⟩, h, hev, hms, hfr, hs_p0_0, hb_p0⟩
   replace h := ite_f hb h
   refine c_skip ?_
   exact k_then ⟨0, ⟨rfl, rfl, rfl, trivial⟩, h, hev, hms, hfr, hs_p0_0, hb_p0⟩
 rintro x_s5_j3 J wj3 ⟨h, hev, hms, hfr, hs_p0_0, hb_p0⟩
 refine c_sp ?_
 refine x_pure 2 [(40, Vp b_p0 0), (41, Vp b_p0 0)] _ _ _ (by kernel_rfl) ?_
 refine x_fieldAddr (xv := Vp b_p0 0) (Vp b_p0 1) rfl rfl rfl (reads_field tfld65_1 _ _) ?_
 refine x_load (xv := Vp b_p0 1) (Vi p0_1) rfl rfl rfl (reads_box tcell3 hb_p0 nn 1 _ rfl) ?_
 refine x_pure 2 [(44, Vi (IntKind.i64.wrap (p0_1 + 1))), (45, Vp b_p0 0)] _ _ _ (by kernel_rfl) ?_
 refine x_fieldAddr (xv := Vp b_p0 0) (Vp b_p0 1) rfl rfl rfl (reads_field tfld65_1 _ _) ?_
 obtain ⟨w6, hr6, hb6, he6⟩ := store_box 1 (Vi (IntKind.i64.wrap (p0_1 + 1))) #[.slice a_p0_0 (p0_0).length c_p0_0, Vi (IntKind.i64.wrap (p0_1 + 1))] tcell3 hb_p0 rfl rfl rfl
 refine x_store w6 (xv := Vp b_p0 1) (yv := Vi (IntKind.i64.wrap (p0_1 + 1))) rfl rfl rfl rfl hr6 ?_
 refine inl1 ?_
 have hst := Stp.ev' (ls := [[b_p0], M]) he6 (mem_flat 0 rfl)
 replace hs_p0_0 := hs_p0_0.step hst
 replace hms := hms.ev he6
 replace hev := hev.then he6 (fun b hb => .inl (by simpa using hb))
 replace hb_p0 := hb6
 refine x_ek ?_
 refine c_norm [(1, Vi p1), (5, Vi x_s5_j3)] ⟨rfl, rfl, trivial⟩ (fun J => ?_)
 refine c_sp ?_
 refine x_pure 2 [(47, Vi x_s5_j3), (48, Vi p1)] _ _ _ (by kernel_rfl) ?_
 refine x_binop (Vi (Int.tmod x_s5_j3 p1)) (Vi x_s5_j3) (Vi p1) rfl rfl rfl rfl (vb_rem (guard_l h)) ?_
 replace h := guard_r h
 refine x_pure 1 [(5, Vi (Int.tmod x_s5_j3 p1))] _ _ _ (by kernel_rfl) ?_
 refine x_ek ?_
 refine c_seq ?_
 refine c_sp ?_
 refine x_pure 2 [(50, Vi (Int.tmod x_s5_j3 p1)), (51, .bool (decide ((Int.tmod x_s5_j3 p1) < 0)))] _ _ _ (by kernel_rfl) ?_
 refine x_ek ?_
 refine c_cond (decide ((Int.tmod x_s5_j3 p1) < 0)) rfl (fun hb => ?_) (fun hb => ?_)
 · replace h := ite_t hb h
   refine c_plain ?_
   refine x_pure 4 [(52, Vi (Int.tmod x_s5_j3 p1)), (53, Vi p1), (54, Vi (IntKind.i64.wrap ((Int.tmod x_s5_j3 p1) + p1))), (5, Vi (IntKind.i64.wrap ((Int.tmod x_s5_j3 p1) + p1)))] _ _ _ (by kernel_rfl) ?_
   refine x_ek ?_
   refine c_sp ?_
   refine x_pure 2 [(55, Vi (IntKind.i64.wrap ((Int.tmod x_s5_j3 p1) + p1))), (4, Vi (IntKind.i64.wrap ((Int.tmod x_s5_j3 p1) + p1)))] _ _ _ (by kernel_rfl) ?_
   refine x_ek ?_
   refine c_ret ?_
   refine r_ret (r_vals [Vi (IntKind.i64.wrap ((Int.tmod x_s5_j3 p1) + p1))] ⟨rfl, trivial⟩ ?_)
   have hx := some_inj h
   subst hx
   have hmr : MS w6 [[b_p0], M] := hms.pick [some 0, some 1] _ rfl
   have hsu : ∀ x ∈ fl [[b_p0], M], x ∈ fl [[b_p0], M] := pick_sub [some 0, some 1] _ rfl
   exact ⟨rfl, hev, hb_p0⟩
 replace h := ite_f hb h
 refine c_skip ?_
 refine k_then ?_
 refine c_sp ?_
 refine x_pure 2 [(55, Vi (Int.tmod x_s5_j3 p1)), (4, Vi (Int.tmod x_s5_j3 p1))] _ _ _ (by kernel_rfl) ?_
 refine x_ek ?_
 refine c_ret ?_
 refine r_ret (r_vals [Vi (Int.tmod x_s5_j3 p1)] ⟨rfl, trivial⟩ ?_)
 have hx := some_inj h
 subst hx
 have hmr : MS w6 [[b_p0], M] := hms.pick [some 0, some 1] _ rfl
 have hsu : ∀ x ∈ fl [[b_p0], M], x ∈ fl [[b_p0], M] := pick_sub [some 0, some 1] _ rfl
 exact ⟨rfl, hev, hb_p0⟩
def gen_Maker_Pick (p0_0 : List Int) (p0_1 : Int) (p1 : List Int) : Option (Int × Int) :=
((gen_Maker_Next p0_0 p0_1 ((p1).length : Int)).bind fun x4 =>
((idx p1 x4.1).bind fun x6 =>
some (x6, x4.2)))

theorem gen_Maker_Pick_w (b_p0 : Nat) (a_p0_0 : Option Addr) (c_p0_0 : Nat) (p0_0 : List Int) (p0_1 : Int) (a_p1 : Option Addr) (c_p1 : Nat) (p1 : List Int) (r : Int × Int) (w : World) (M : List Nat) (hms : MS w [[b_p0], M]) (hs_p0_0 : SlR (eInt .i64) w (fl [[b_p0], M]) a_p0_0 c_p0_0 p0_0) (hb_p0 : w.heap[b_p0]? = some (.cells #[.slice a_p0_0 (p0_0).length c_p0_0, Vi p0_1] 65 (0, 0))) (hs_p1 : SlR (eInt .i64) w (fl [[b_p0], M]) a_p1 c_p1 p1) (h : gen_Maker_Pick p0_0 p0_1 p1 = some r) : CallVC Try.prog 31 [Vp b_p0 0, .slice a_p1 (p1).length c_p1] w fun v w' => v = Vi r.1 ∧ Ev [b_p0] w w' ∧ w'.heap[b_p0]? = some (.cells #[.slice a_p0_0 (p0_0).length c_p0_0, Vi r.2] 65 (0, 0)) := by
 refine calls_vc hmx Try.func31 (by kernel_rfl) rfl (rs := [.tmp 4]) rfl (by kernel_rfl) (args := [Vp b_p0 0, .slice a_p1 (p1).length c_p1]) rfl ?_
 have hev : Ev [b_p0] w w := Ev.refl _ _
 have hfr : FR w.heap.size [] := FR.nil _
 refine c_sp ?_
 refine x_pure 1 [(4, Vi 0)] _ _ _ (by kernel_rfl) ?_
 refine x_ek ?_
 refine c_sp ?_
 refine x_pure 3 [(5, .slice a_p1 (p1).length c_p1), (6, Vp b_p0 0), (7, .slice a_p1 (p1).length c_p1)] _ _ _ (by kernel_rfl) ?_
 refine x_len (vs := [.slice a_p1 (p1).length c_p1]) (Vi ((p1).length : Int)) rfl rfl rfl (reads_len tsl22 _ _ _ _ _) ?_
 obtain ⟨x4, hx, h⟩ := bind_some h
 have hpk : MS w ([[b_p0]] ++ [M]) := hms.pick [some 0, some 1] _ rfl
 have hsb0 : ∀ x ∈ fl ([[b_p0]] ++ [M]), x ∈ fl [[b_p0], M] := pick_sub [some 0, some 1] _ rfl
 have hsb : ∀ x ∈ fl ([[b_p0]] ++ [(fl [M])]), x ∈ fl [[b_p0], M] := fun x hx => hsb0 x (fl_unfold x hx)
 have hcall := gen_Maker_Next_w b_p0 a_p0_0 c_p0_0 p0_0 p0_1 ((p1).length : Int) _ w (fl [M]) (hpk.fold (P := [[b_p0]])) (hs_p0_0.sub hsb) hb_p0 hx
 refine x_call 37 #[] #[] [Vp b_p0 0, Vi ((p1).length : Int)] _ rfl rfl rfl rfl hcall ?_
 rintro v w5 ⟨rfl, he5, hp5_0⟩
 clear hcall hx
 refine inl1 ?_
 have hpk2 : MS w ([[b_p0]] ++ [M]) := hms.pick [some 0, some 1] _ rfl
 have hsb2 : ∀ x ∈ fl ([[b_p0]] ++ [M]), x ∈ fl [[b_p0], M] := pick_sub [some 0, some 1] _ rfl
 have hst0 := Stp.call (LS := [[b_p0], M]) (res := []) (par := [[b_p0]]) (R := [M]) he5 (fun b hb => hsb2 b (fl_left' (P := [[b_p0]]) b hb)) (FR.nil _) (NP.init _ _) (fun x hx => hsb2 x (fl_right' (P := [[b_p0]]) x hx))
 have hsn : ∀ x ∈ fl [[b_p0], M], x ∈ fl ([] ++ ([[b_p0]] ++ [M])) := pick_sub [some 0, some 1] _ rfl
 have hst := hst0.res hsn
 replace hs_p0_0 := hs_p0_0.step hst
 replace hs_p1 := hs_p1.step hst
 replace hms := hms.ev he5
 replace hev := hev.then he5 (fun b hb => .inl (by simpa using hb))
 replace hb_p0 := hp5_0
 clear hpk hsb hsb0 hpk2 hsb2 hst0 hsn hst
 obtain ⟨x6, hx6, h⟩ := bind_some h
 obtain ⟨ad6, cs6, hr6, hc6, hR⟩ := reads_index (Mo := []) tsl22 hs_p1 hx6
 obtain rfl := hR
 refine x_indexAddr (xv := .slice a_p1 (p1).length c_p1) (yv := Vi x4.1) (.pointer (some ad6)) rfl rfl rfl rfl hr6 ?_
 refine x_load (xv := .pointer (some ad6)) (Vi x6) rfl rfl rfl (reads_cell0 tcell3 hc6 (fun _ h => by cases h)) ?_
 refine x_pure 1 [(4, Vi x6)] _ _ _ (by kernel_rfl) ?_
 refine x_ek ?_
 refine c_ret ?_
 refine r_ret (r_vals [Vi x6] ⟨rfl, trivial⟩ ?_)
 have hx := some_inj h
 subst hx
 have hmr : MS w5 [[b_p0], M] := hms.pick [some 0, some 1] _ rfl
 have hsu : ∀ x ∈ fl [[b_p0], M], x ∈ fl [[b_p0], M] := pick_sub [some 0, some 1] _ rfl
 exact ⟨rfl, hev, hb_p0⟩
def gen_Maker_Items_J15 (p0_0 : List Int) (x5 : Int × Int) (x7 : Int × Int) (d13_l11 : List (Int × Int × Int × Int)) (i_s10_l11 : Int) (e2_j15_1 : Int) (round_s9_j15 : Int) : Option (Step (Int × (List (Int × Int × Int × Int)) × Int × Int) (Int × (List (Int × Int × Int × Int)))) :=
((gen_Maker_Next p0_0 e2_j15_1 (IntKind.i64.wrap (1 + x5.1))).bind fun x21 =>
((gen_Maker_Next p0_0 x21.2 (IntKind.i64.wrap (1 + x7.1))).bind fun x23 =>
((gen_Maker_Pick p0_0 x23.2 ([80, 142, 199, 262])).bind fun x27 =>
(if d13_l11.length + ([(x21.1, x23.1, round_s9_j15, x27.1)] : List (Int × Int × Int × Int)).length ≤ 4294967296 then
some (.next (x27.2, (d13_l11 ++ ([(x21.1, x23.1, round_s9_j15, x27.1)] : List (Int × Int × Int × Int))), round_s9_j15, IntKind.i64.wrap (i_s10_l11 - 1)))
else none))))

def gen_Maker_Items_J16 (p0_0 : List Int) (x5 : Int × Int) (x7 : Int × Int) (d13_l11 : List (Int × Int × Int × Int)) (round_s9_l11 : Int) (i_s10_l11 : Int) (e2_j16_1 : Int) (t33__s33_j16 : Bool) : Option (Step (Int × (List (Int × Int × Int × Int)) × Int × Int) (Int × (List (Int × Int × Int × Int)))) :=
(if t33__s33_j16 = true then
((gen_Maker_Next p0_0 e2_j16_1 3).bind fun x19 =>
gen_Maker_Items_J15 p0_0 x5 x7 d13_l11 i_s10_l11 x19.2 (if 4 < (IntKind.i64.wrap (round_s9_l11 + x19.1)) then 4 else (IntKind.i64.wrap (round_s9_l11 + x19.1))))
else
gen_Maker_Items_J15 p0_0 x5 x7 d13_l11 i_s10_l11 e2_j16_1 round_s9_l11)

def gen_Maker_Items_L11 (p0_0 : List Int) (x3 : Int × Int) (x5 : Int × Int) (x7 : Int × Int) (s : Int × (List (Int × Int × Int × Int)) × Int × Int) : Option (Step (Int × (List (Int × Int × Int × Int)) × Int × Int) (Int × (List (Int × Int × Int × Int)))) :=
match s with
| (e2_l11_1, d13_l11, round_s9_l11, i_s10_l11) =>
(if (decide (i_s10_l11 > 0)) = true then
(if (x3.1 == 0) = true then
((gen_Maker_Next p0_0 e2_l11_1 4).bind fun x17 =>
gen_Maker_Items_J16 p0_0 x5 x7 d13_l11 round_s9_l11 i_s10_l11 x17.2 (x17.1 == 0))
else
gen_Maker_Items_J16 p0_0 x5 x7 d13_l11 round_s9_l11 i_s10_l11 e2_l11_1 false)
else
some (.done (e2_l11_1, d13_l11)))

def gen_Maker_Items (p0_0 : List Int) (p0_1 : Int) (p1 : Int) : Option ((List (Int × Int × Int × Int)) × Int) :=
((gen_Maker_Next p0_0 p0_1 4).bind fun x3 =>
((gen_Maker_Next p0_0 x3.2 3).bind fun x5 =>
((gen_Maker_Next p0_0 x5.2 6).bind fun x7 =>
((gen_Maker_Next p0_0 x7.2 (IntKind.i64.wrap (p1 + 1))).bind fun x9 =>
((loop (gen_Maker_Items_L11 p0_0 x3 x5 x7) (x9.2, ([] : List (Int × Int × Int × Int)), 0, x9.1)).bind fun d => match d with
| (e2_x11_1, d13_x11) => some (d13_x11, e2_x11_1))))))

theorem gen_Maker_Items_w (b_p0 : Nat) (a_p0_0 : Option Addr) (c_p0_0 : Nat) (p0_0 : List Int) (p0_1 : Int) (p1 : Int) (r : (List (Int × Int × Int × Int)) × Int) (w : World) (M : List Nat) (hms : MS w [[b_p0], M]) (hs_p0_0 : SlR (eInt .i64) w (fl [[b_p0], M]) a_p0_0 c_p0_0 p0_0) (hb_p0 : w.heap[b_p0]? = some (.cells #[.slice a_p0_0 (p0_0).length c_p0_0, Vi p0_1] 65 (0, 0))) (h : gen_Maker_Items p0_0 p0_1 p1 = some r) : CallVC Try.prog 30 [Vp b_p0 0, Vi p1] w fun v w' => ∃ (a0' : Option Addr), ∃ (c0' : Nat), v = .slice a0' (r.1).length c0' ∧ Ev [b_p0] w w' ∧ w'.heap[b_p0]? = some (.cells #[.slice a_p0_0 (p0_0).length c_p0_0, Vi r.2] 65 (0, 0)) ∧ MS w' [blk a0', [b_p0], M] ∧ FR w.heap.size [blk a0'] ∧ OwnS (eIt4) 79 w' (fl [blk a0', [b_p0], M]) a0' c0' r.1 := by
 refine calls_vc hmx Try.func30 (by kernel_rfl) rfl (rs := [.tmp 4]) rfl (by kernel_rfl) (args := [Vp b_p0 0, Vi p1]) rfl ?_
 have hev : Ev [b_p0] w w := Ev.refl _ _
 have hfr : FR w.heap.size [] := FR.nil _
 refine c_sp ?_
 refine x_pure 1 [(4, .slice none 0 0)] _ _ _ (by kernel_rfl) ?_
 refine x_ek ?_
 refine c_sp ?_
 refine x_pure 1 [(5, .slice none 0 0)] _ _ _ (by kernel_rfl) ?_
 refine x_ek ?_
 refine c_sp ?_
 refine x_pure 1 [(11, Vp b_p0 0)] _ _ _ (by kernel_rfl) ?_
 obtain ⟨x3, hx, h⟩ := bind_some h
 have hpk : MS w ([[b_p0]] ++ [M]) := hms.pick [some 0, some 1] _ rfl
 have hsb0 : ∀ x ∈ fl ([[b_p0]] ++ [M]), x ∈ fl [[b_p0], M] := pick_sub [some 0, some 1] _ rfl
 have hsb : ∀ x ∈ fl ([[b_p0]] ++ [(fl [M])]), x ∈ fl [[b_p0], M] := fun x hx => hsb0 x (fl_unfold x hx)
 have hcall := gen_Maker_Next_w b_p0 a_p0_0 c_p0_0 p0_0 p0_1 4 _ w (fl [M]) (hpk.fold (P := [[b_p0]])) (hs_p0_0.sub hsb) hb_p0 hx
 refine x_call 37 #[] #[] [Vp b_p0 0, Vi 4] _ rfl rfl rfl rfl hcall ?_
 rintro v w4 ⟨rfl, he4, hp4_0⟩
 clear hcall hx
 refine inl1 ?_
 have hpk2 : MS w ([[b_p0]] ++ [M]) := hms.pick [some 0, some 1] _ rfl
 have hsb2 : ∀ x ∈ fl ([[b_p0]] ++ [M]), x ∈ fl [[b_p0], M] := pick_sub [some 0, some 1] _ rfl
 have hst0 := Stp.call (LS := [[b_p0], M]) (res := []) (par := [[b_p0]]) (R := [M]) he4 (fun b hb => hsb2 b (fl_left' (P := [[b_p0]]) b hb)) (FR.nil _) (NP.init _ _) (fun x hx => hsb2 x (fl_right' (P := [[b_p0]]) x hx))
 have hsn : ∀ x ∈ fl [[b_p0], M], x ∈ fl ([] ++ ([[b_p0]] ++ [M])) := pick_sub [some 0, some 1] _ rfl
 have hst := hst0.res hsn
 replace hs_p0_0 := hs_p0_0.step hst
 replace hms := hms.ev he4
 replace hev := hev.then he4 (fun b hb => .inl (by simpa using hb))
 replace hb_p0 := hp4_0
 clear hpk hsb hsb0 hpk2 hsb2 hst0 hsn hst
 refine x_pure 2 [(13, .bool (x3.1 == 0)), (14, Vp b_p0 0)] _ _ _ (by kernel_rfl) ?_
 obtain ⟨x5, hx, h⟩ := bind_some h
 have hpk : MS w4 ([[b_p0]] ++ [M]) := hms.pick [some 0, some 1] _ rfl
 have hsb0 : ∀ x ∈ fl ([[b_p0]] ++ [M]), x ∈ fl [[b_p0], M] := pick_sub [some 0, some 1] _ rfl
 have hsb : ∀ x ∈ fl ([[b_p0]] ++ [(fl [M])]), x ∈ fl [[b_p0], M] := fun x hx => hsb0 x (fl_unfold x hx)
 have hcall := gen_Maker_Next_w b_p0 a_p0_0 c_p0_0 p0_0 x3.2 3 _ w4 (fl [M]) (hpk.fold (P := [[b_p0]])) (hs_p0_0.sub hsb) hb_p0 hx
 refine x_call 37 #[] #[] [Vp b_p0 0, Vi 3] _ rfl rfl rfl rfl hcall ?_
 rintro v w6 ⟨rfl, he6, hp6_0⟩
 clear hcall hx
 refine inl1 ?_
 have hpk2 : MS w4 ([[b_p0]] ++ [M]) := hms.pick [some 0, some 1] _ rfl
 have hsb2 : ∀ x ∈ fl ([[b_p0]] ++ [M]), x ∈ fl [[b_p0], M] := pick_sub [some 0, some 1] _ rfl
 have hst0 := Stp.call (LS := [[b_p0], M]) (res := []) (par := [[b_p0]]) (R := [M]) he6 (fun b hb => hsb2 b (fl_left' (P := [[b_p0]]) b hb)) (FR.nil _) (NP.init _ _) (fun x hx => hsb2 x (fl_right' (P := [[b_p0]]) x hx))
 have hsn : ∀ x ∈ fl [[b_p0], M], x ∈ fl ([] ++ ([[b_p0]] ++ [M])) := pick_sub [some 0, some 1] _ rfl
 have hst := hst0.res hsn
 replace hs_p0_0 := hs_p0_0.step hst
 replace hms := hms.ev he6
 replace hev := hev.then he6 (fun b hb => .inl (by simpa using hb))
 replace hb_p0 := hp6_0
 clear hpk hsb hsb0 hpk2 hsb2 hst0 hsn hst
 refine x_pure 2 [(16, Vi (IntKind.i64.wrap (1 + x5.1))), (17, Vp b_p0 0)] _ _ _ (by kernel_rfl) ?_
 obtain ⟨x7, hx, h⟩ := bind_some h
 have hpk : MS w6 ([[b_p0]] ++ [M]) := hms.pick [some 0, some 1] _ rfl
 have hsb0 : ∀ x ∈ fl ([[b_p0]] ++ [M]), x ∈ fl [[b_p0], M] := pick_sub [some 0, some 1] _ rfl
 have hsb : ∀ x ∈ fl ([[b_p0]] ++ [(fl [M])]), x ∈ fl [[b_p0], M] := fun x hx => hsb0 x (fl_unfold x hx)
 have hcall := gen_Maker_Next_w b_p0 a_p0_0 c_p0_0 p0_0 x5.2 6 _ w6 (fl [M]) (hpk.fold (P := [[b_p0]])) (hs_p0_0.sub hsb) hb_p0 hx
 refine x_call 37 #[] #[] [Vp b_p0 0, Vi 6] _ rfl rfl rfl rfl hcall ?_
 rintro v w8 ⟨rfl, he8, hp8_0⟩
 clear hcall hx
 refine inl1 ?_
 have hpk2 : MS w6 ([[b_p0]] ++ [M]) := hms.pick [some 0, some 1] _ rfl
 have hsb2 : ∀ x ∈ fl ([[b_p0]] ++ [M]), x ∈ fl [[b_p0], M] := pick_sub [some 0, some 1] _ rfl
 have hst0 := Stp.call (LS := [[b_p0], M]) (res := []) (par := [[b_p0]]) (R := [M]) he8 (fun b hb => hsb2 b (fl_left' (P := [[b_p0]]) b hb)) (FR.nil _) (NP.init _ _) (fun x hx => hsb2 x (fl_right' (P := [[b_p0]]) x hx))
 have hsn : ∀ x ∈ fl [[b_p0], M], x ∈ fl ([] ++ ([[b_p0]] ++ [M])) := pick_sub [some 0, some 1] _ rfl
 have hst := hst0.res hsn
 replace hs_p0_0 := hs_p0_0.step hst
 replace hms := hms.ev he8
 replace hev := hev.then he8 (fun b hb => .inl (by simpa using hb))
 replace hb_p0 := hp8_0
 clear hpk hsb hsb0 hpk2 hsb2 hst0 hsn hst
 refine x_pure 4 [(19, Vi (IntKind.i64.wrap (1 + x7.1))), (6, .bool (x3.1 == 0)), (7, Vi (IntKind.i64.wrap (1 + x5.1))), (8, Vi (IntKind.i64.wrap (1 + x7.1)))] _ _ _ (by kernel_rfl) ?_
 refine x_ek ?_
 refine c_norm [(0, Vp b_p0 0), (1, Vi p1), (5, .slice none 0 0), (6, .bool (x3.1 == 0)), (7, Vi (IntKind.i64.wrap (1 + x5.1))), (8, Vi (IntKind.i64.wrap (1 + x7.1)))] ⟨rfl, rfl, rfl, rfl, rfl, rfl, trivial⟩ (fun J => ?_)
 refine c_sp ?_
 refine x_pure 1 [(9, Vi 0)] _ _ _ (by kernel_rfl) ?_
 refine x_ek ?_
 refine c_seq ?_
 refine c_sp ?_
 refine x_pure 3 [(20, Vp b_p0 0), (21, Vi p1), (22, Vi (IntKind.i64.wrap (p1 + 1)))] _ _ _ (by kernel_rfl) ?_
 obtain ⟨x9, hx, h⟩ := bind_some h
 have hpk : MS w8 ([[b_p0]] ++ [M]) := hms.pick [some 0, some 1] _ rfl
 have hsb0 : ∀ x ∈ fl ([[b_p0]] ++ [M]), x ∈ fl [[b_p0], M] := pick_sub [some 0, some 1] _ rfl
 have hsb : ∀ x ∈ fl ([[b_p0]] ++ [(fl [M])]), x ∈ fl [[b_p0], M] := fun x hx => hsb0 x (fl_unfold x hx)
 have hcall := gen_Maker_Next_w b_p0 a_p0_0 c_p0_0 p0_0 x7.2 (IntKind.i64.wrap (p1 + 1)) _ w8 (fl [M]) (hpk.fold (P := [[b_p0]])) (hs_p0_0.sub hsb) hb_p0 hx
 refine x_call 37 #[] #[] [Vp b_p0 0, Vi (IntKind.i64.wrap (p1 + 1))] _ rfl rfl rfl rfl hcall ?_
 rintro v w10 ⟨rfl, he10, hp10_0⟩
 clear hcall hx
 refine inl1 ?_
 have hpk2 : MS w8 ([[b_p0]] ++ [M]) := hms.pick [some 0, some 1] _ rfl
 have hsb2 : ∀ x ∈ fl ([[b_p0]] ++ [M]), x ∈ fl [[b_p0], M] := pick_sub [some 0, some 1] _ rfl
 have hst0 := Stp.call (LS := [[b_p0], M]) (res := []) (par := [[b_p0]]) (R := [M]) he10 (fun b hb => hsb2 b (fl_left' (P := [[b_p0]]) b hb)) (FR.nil _) (NP.init _ _) (fun x hx => hsb2 x (fl_right' (P := [[b_p0]]) x hx))
 have hsn : ∀ x ∈ fl [[b_p0], M], x ∈ fl ([] ++ ([[b_p0]] ++ [M])) := pick_sub [some 0, some 1] _ rfl
 have hst := hst0.res hsn
 replace hs_p0_0 := hs_p0_0.step hst
 replace hms := hms.ev he10
 replace hev := hev.then he10 (fun b hb => .inl (by simpa using hb))
 replace hb_p0 := hp10_0
 clear hpk hsb hsb0 hpk2 hsb2 hst0 hsn hst
 refine x_pure 1 [(10, Vi x9.1)] _ _ _ (by kernel_rfl) ?_
 refine x_ek ?_
 refine c_block ?_
 have hst := Stp.push (ls := [[b_p0], M]) (l := blk none) (Ev.refl [] w10) (fun _ h => by cases h) (fun _ h => by cases h)
 replace hs_p0_0 := hs_p0_0.step hst
 replace hb_p0 := (Ev.refl [] _).box hb_p0 nn
 replace hms := hms.push (l := blk none) (Ev.refl [] _) (fun _ h => by cases h)
 replace hfr := hfr.push (l := blk none) (fun _ h => by cases h)
 have ho12 := OwnS.nil (eIt4) 79 w10 (fl [blk none, [b_p0], M])
 obtain ⟨d11, hd11, h11⟩ := bind_some h
 obtain ⟨m11, hd11⟩ := loop_some hd11
 refine c_loop (loop_rule hmx (σ := Nat × Int × (List (Int × Int × Int × Int)) × Int × Int × Option Addr × Nat) (fun s => match s with | (_, e2_l11_1, d13_l11, round_s9_l11, i_s10_l11, a13_l11, c13_l11) => [(0, Vp b_p0 0), (5, .slice a13_l11 (d13_l11).length c13_l11), (6, .bool (x3.1 == 0)), (7, Vi (IntKind.i64.wrap (1 + x5.1))), (8, Vi (IntKind.i64.wrap (1 + x7.1))), (9, Vi round_s9_l11), (10, Vi i_s10_l11)]) (fun s w' => match s with | (m, e2_l11_1, d13_l11, round_s9_l11, i_s10_l11, a13_l11, c13_l11) => loopN (gen_Maker_Items_L11 p0_0 x3 x5 x7) m (e2_l11_1, d13_l11, round_s9_l11, i_s10_l11) = some d11 ∧ Ev [b_p0] w w' ∧ MS w' [blk a13_l11, [b_p0], M] ∧ FR w.heap.size [blk a13_l11] ∧ SlR (eInt .i64) w' (fl [blk a13_l11, [b_p0], M]) a_p0_0 c_p0_0 p0_0 ∧ w'.heap[b_p0]? = some (.cells #[.slice a_p0_0 (p0_0).length c_p0_0, Vi e2_l11_1] 65 (0, 0)) ∧ OwnS (eIt4) 79 w' (fl [blk a13_l11, [b_p0], M]) a13_l11 c13_l11 d13_l11) (fun s => s.1) (m11, x9.2, ([] : List (Int × Int × Int × Int)), 0, x9.1, none, 0) ⟨rfl, rfl, rfl, rfl, rfl, rfl, rfl, trivial⟩ ⟨hd11, hev, hms, hfr, hs_p0_0, hb_p0, ho12⟩ ?_)
 rintro ⟨m11, e2_l11_1, d13_l11, round_s9_l11, i_s10_l11, a13_l11, c13_l11⟩ J wl11 ⟨hn11, hev, hms, hfr, hs_p0_0, hb_p0, hj13_l11⟩
 rcases m11 with _ | m11
 · exact (loopN_zero hn11).elim
 obtain ⟨t11, h, hn11⟩ := bind_some hn11
 refine c_seq ?_
 refine c_sp ?_
 refine x_pure 2 [(24, Vi i_s10_l11), (25, .bool (decide (i_s10_l11 > 0)))] _ _ _ (by kernel_rfl) ?_
 refine x_ek ?_
 refine c_norm [(0, Vp b_p0 0), (5, .slice a13_l11 (d13_l11).length c13_l11), (6, .bool (x3.1 == 0)), (7, Vi (IntKind.i64.wrap (1 + x5.1))), (8, Vi (IntKind.i64.wrap (1 + x7.1))), (9, Vi round_s9_l11), (10, Vi i_s10_l11), (25, .bool (decide (i_s10_l11 > 0)))] ⟨rfl, rfl, rfl, rfl, rfl, rfl, rfl, rfl, trivial⟩ (fun J => ?_)
 refine c_cond (decide (i_s10_l11 > 0)) rfl (fun hb => ?_) (fun hb => ?_)
 · replace h := ite_t hb h
   refine c_skip ?_
   refine k_then ?_
   refine c_seq ?_
   refine c_block ?_
   refine c_join (σ := Int × Int) (fun s => match s with | (e2_j15_1, round_s9_j15) => [(0, Vp b_p0 0), (5, .slice a13_l11 (d13_l11).length c13_l11), (6, .bool (x3.1 == 0)), (7, Vi (IntKind.i64.wrap (1 + x5.1))), (8, Vi (IntKind.i64.wrap (1 + x7.1))), (9, Vi round_s9_j15), (10, Vi i_s10_l11)]) (fun s w' => match s with | (e2_j15_1, round_s9_j15) => gen_Maker_Items_J15 p0_0 x5 x7 d13_l11 i_s10_l11 e2_j15_1 round_s9_j15 = some t11 ∧ Ev [b_p0] w w' ∧ MS w' [blk a13_l11, [b_p0], M] ∧ FR w.heap.size [blk a13_l11] ∧ SlR (eInt .i64) w' (fl [blk a13_l11, [b_p0], M]) a_p0_0 c_p0_0 p0_0 ∧ w'.heap[b_p0]? = some (.cells #[.slice a_p0_0 (p0_0).length c_p0_0, Vi e2_j15_1] 65 (0, 0)) ∧ OwnS (eIt4) 79 w' (fl [blk a13_l11, [b_p0], M]) a13_l11 c13_l11 d13_l11) ?_ ?_
   · refine c_join (σ := Int × Bool) (fun s => match s with | (e2_j16_1, t33__s33_j16) => [(0, Vp b_p0 0), (5, .slice a13_l11 (d13_l11).length c13_l11), (6, .bool (x3.1 == 0)), (7, Vi (IntKind.i64.wrap (1 + x5.1))), (8, Vi (IntKind.i64.wrap (1 + x7.1))), (9, Vi round_s9_l11), (10, Vi i_s10_l11), (33, .bool t33__s33_j16)]) (fun s w' => match s with | (e2_j16_1, t33__s33_j16) => gen_Maker_Items_J16 p0_0 x5 x7 d13_l11 round_s9_l11 i_s10_l11 e2_j16_1 t33__s33_j16 = some t11 ∧ Ev [b_p0] w w' ∧ MS w' [blk a13_l11, [b_p0], M] ∧ FR w.heap.size [blk a13_l11] ∧ SlR (eInt .i64) w' (fl [blk a13_l11, [b_p0], M]) a_p0_0 c_p0_0 p0_0 ∧ w'.heap[b_p0]? = some (.cells #[.slice a_p0_0 (p0_0).length c_p0_0, Vi e2_j16_1] 65 (0, 0)) ∧ OwnS (eIt4) 79 w' (fl [blk a13_l11, [b_p0], M]) a13_l11 c13_l11 d13_l11) ?_ ?_
     · refine c_plain ?_
       refine x_pure 2 [(28, .bool (x3.1 == 0)), (29, .bool (x3.1 == 0))] _ _ _ (by kernel_rfl) ?_
       refine x_split 29 (x3.1 == 0) rfl (fun hb => ?_) (fun hb => ?_)
       · replace h := ite_t hb h
         refine x_pure 1 [(30, Vp b_p0 0)] _ _ _ (by kernel_rfl) ?_
         obtain ⟨x17, hx, h⟩ := bind_some h
         have hpk : MS wl11 ([[b_p0]] ++ [blk a13_l11, M]) := hms.pick [some 1, some 0, some 2] _ rfl
         have hsb0 : ∀ x ∈ fl ([[b_p0]] ++ [blk a13_l11, M]), x ∈ fl [blk a13_l11, [b_p0], M] := pick_sub [some 1, some 0, some 2] _ rfl
         have hsb : ∀ x ∈ fl ([[b_p0]] ++ [(fl [blk a13_l11, M])]), x ∈ fl [blk a13_l11, [b_p0], M] := fun x hx => hsb0 x (fl_unfold x hx)
         have hcall := gen_Maker_Next_w b_p0 a_p0_0 c_p0_0 p0_0 e2_l11_1 4 _ wl11 (fl [blk a13_l11, M]) (hpk.fold (P := [[b_p0]])) (hs_p0_0.sub hsb) hb_p0 hx
         refine x_call 37 #[] #[] [Vp b_p0 0, Vi 4] _ rfl rfl rfl rfl hcall ?_
         rintro v w18 ⟨rfl, he18, hp18_0⟩
         clear hcall hx
         refine inl1 ?_
         have hpk2 : MS wl11 ([[b_p0]] ++ [blk a13_l11, M]) := hms.pick [some 1, some 0, some 2] _ rfl
         have hsb2 : ∀ x ∈ fl ([[b_p0]] ++ [blk a13_l11, M]), x ∈ fl [blk a13_l11, [b_p0], M] := pick_sub [some 1, some 0, some 2] _ rfl
         have hst0 := Stp.call (LS := [blk a13_l11, [b_p0], M]) (res := []) (par := [[b_p0]]) (R := [blk a13_l11, M]) he18 (fun b hb => hsb2 b (fl_left' (P := [[b_p0]]) b hb)) (FR.nil _) (NP.init _ _) (fun x hx => hsb2 x (fl_right' (P := [[b_p0]]) x hx))
         have hsn : ∀ x ∈ fl [blk a13_l11, [b_p0], M], x ∈ fl ([] ++ ([[b_p0]] ++ [blk a13_l11, M])) := pick_sub [some 1, some 0, some 2] _ rfl
         have hst := hst0.res hsn
         replace hs_p0_0 := hs_p0_0.step hst
         replace hj13_l11 := hj13_l11.step hst he18 (MS.outs (P := [[b_p0]]) hpk2 0 rfl)
         replace hms := hms.ev he18
         replace hev := hev.then he18 (fun b hb => .inl (by simpa using hb))
         replace hb_p0 := hp18_0
         clear hpk hsb hsb0 hpk2 hsb2 hst0 hsn hst
         refine x_pure 2 [(32, .bool (x17.1 == 0)), (33, .bool (x17.1 == 0))] _ _ _ (by kernel_rfl) ?_
         refine x_end rfl ?_
         exact k_then ⟨(x17.2, x17.1 == 0), ⟨rfl, rfl, rfl, rfl, rfl, rfl, rfl, rfl, trivial⟩, h, hev, hms, hfr, hs_p0_0, hb_p0, hj13_l11⟩
       replace h := ite_f hb h
       refine x_pure 4 [(30, undef), (31, undef), (32, undef), (33, .bool false)] _ _ _ (by kernel_rfl) ?_
       refine x_end rfl ?_
       exact k_then ⟨(e2_l11_1, false), ⟨rfl, rfl, rfl, rfl, rfl, rfl, rfl, rfl, trivial⟩, h, hev, hms, hfr, hs_p0_0, hb_p0, hj13_l11⟩
     rintro ⟨e2_j16_1, t33__s33_j16⟩ J wj16 ⟨h, hev, hms, hfr, hs_p0_0, hb_p0, hj13_l11⟩
     refine c_cond t33__s33_j16 rfl (fun hb => ?_) (fun hb => ?_)
     · replace h := ite_t hb h
       refine c_plain ?_
       refine x_pure 2 [(34, Vi round_s9_l11), (35, Vp b_p0 0)] _ _ _ (by kernel_rfl) ?_
       obtain ⟨x19, hx, h⟩ := bind_some h
       have hpk : MS wj16 ([[b_p0]] ++ [blk a13_l11, M]) := hms.pick [some 1, some 0, some 2] _ rfl
       have hsb0 : ∀ x ∈ fl ([[b_p0]] ++ [blk a13_l11, M]), x ∈ fl [blk a13_l11, [b_p0], M] := pick_sub [some 1, some 0, some 2] _ rfl
       have hsb : ∀ x ∈ fl ([[b_p0]] ++ [(fl [blk a13_l11, M])]), x ∈ fl [blk a13_l11, [b_p0], M] := fun x hx => hsb0 x (fl_unfold x hx)
       have hcall := gen_Maker_Next_w b_p0 a_p0_0 c_p0_0 p0_0 e2_j16_1 3 _ wj16 (fl [blk a13_l11, M]) (hpk.fold (P := [[b_p0]])) (hs_p0_0.sub hsb) hb_p0 hx
       refine x_call 37 #[] #[] [Vp b_p0 0, Vi 3] _ rfl rfl rfl rfl hcall ?_
       rintro v w20 ⟨rfl, he20, hp20_0⟩
       clear hcall hx
       refine inl1 ?_
       have hpk2 : MS wj16 ([[b_p0]] ++ [blk a13_l11, M]) := hms.pick [some 1, some 0, some 2] _ rfl
       have hsb2 : ∀ x ∈ fl ([[b_p0]] ++ [blk a13_l11, M]), x ∈ fl [blk a13_l11, [b_p0], M] := pick_sub [some 1, some 0, some 2] _ rfl
       have hst0 := Stp.call (LS := [blk a13_l11, [b_p0], M]) (res := []) (par := [[b_p0]]) (R := [blk a13_l11, M]) he20 (fun b hb => hsb2 b (fl_left' (P := [[b_p0]]) b hb)) (FR.nil _) (NP.init _ _) (fun x hx => hsb2 x (fl_right' (P := [[b_p0]]) x hx))
       have hsn : ∀ x ∈ fl [blk a13_l11, [b_p0], M], x ∈ fl ([] ++ ([[b_p0]] ++ [blk a13_l11, M])) := pick_sub [some 1, some 0, some 2] _ rfl
       have hst := hst0.res hsn
       replace hs_p0_0 := hs_p0_0.step hst
       replace hj13_l11 := hj13_l11.step hst he20 (MS.outs (P := [[b_p0]]) hpk2 0 rfl)
       replace hms := hms.ev he20
       replace hev := hev.then he20 (fun b hb => .inl (by simpa using hb))
       replace hb_p0 := hp20_0
       clear hpk hsb hsb0 hpk2 hsb2 hst0 hsn hst
       refine x_pure 1 [(37, Vi (IntKind.i64.wrap (round_s9_l11 + x19.1)))] _ _ _ (by kernel_rfl) ?_
       refine x_min (vs := [Vi (IntKind.i64.wrap (round_s9_l11 + x19.1)), Vi 4]) (Vi (if 4 < (IntKind.i64.wrap (round_s9_l11 + x19.1)) then 4 else (IntKind.i64.wrap (round_s9_l11 + x19.1)))) rfl rfl rfl (fun _ _ => rfl) ?_
       refine x_pure 1 [(9, Vi (if 4 < (IntKind.i64.wrap (round_s9_l11 + x19.1)) then 4 else (IntKind.i64.wrap (round_s9_l11 + x19.1))))] _ _ _ (by kernel_rfl) ?_
       refine x_end rfl ?_
       exact k_then ⟨(x19.2, if 4 < (IntKind.i64.wrap (round_s9_l11 + x19.1)) then 4 else (IntKind.i64.wrap (round_s9_l11 + x19.1))), ⟨rfl, rfl, rfl, rfl, rfl, rfl, rfl, trivial⟩, h, hev, hms, hfr, hs_p0_0, hb_p0, hj13_l11⟩
     replace h := ite_f hb h
     refine c_skip ?_
     exact k_then ⟨(e2_j16_1, round_s9_l11), ⟨rfl, rfl, rfl, rfl, rfl, rfl, rfl, trivial⟩, h, hev, hms, hfr, hs_p0_0, hb_p0, hj13_l11⟩
   rintro ⟨e2_j15_1, round_s9_j15⟩ J wj15 ⟨h, hev, hms, hfr, hs_p0_0, hb_p0, hj13_l11⟩
   refine c_plain ?_
   refine x_pure 3 [(39, .slice a13_l11 (d13_l11).length c13_l11), (40, Vp b_p0 0), (41, Vi (IntKind.i64.wrap (1 + x5.1)))] _ _ _ (by kernel_rfl) ?_
   obtain ⟨x21, hx, h⟩ := bind_some h
   have hpk : MS wj15 ([[b_p0]] ++ [blk a13_l11, M]) := hms.pick [some 1, some 0, some 2] _ rfl
   have hsb0 : ∀ x ∈ fl ([[b_p0]] ++ [blk a13_l11, M]), x ∈ fl [blk a13_l11, [b_p0], M] := pick_sub [some 1, some 0, some 2] _ rfl
   have hsb : ∀ x ∈ fl ([[b_p0]] ++ [(fl [blk a13_l11, M])]), x ∈ fl [blk a13_l11, [b_p0], M] := fun x hx => hsb0 x (fl_unfold x hx)
   have hcall := gen_Maker_Next_w b_p0 a_p0_0 c_p0_0 p0_0 e2_j15_1 (IntKind.i64.wrap (1 + x5.1)) _ wj15 (fl [blk a13_l11, M]) (hpk.fold (P := [[b_p0]])) (hs_p0_0.sub hsb) hb_p0 hx
   refine x_call 37 #[] #[] [Vp b_p0 0, Vi (IntKind.i64.wrap (1 + x5.1))] _ rfl rfl rfl rfl hcall ?_
   rintro v w22 ⟨rfl, he22, hp22_0⟩
   clear hcall hx
   refine inl1 ?_
   have hpk2 : MS wj15 ([[b_p0]] ++ [blk a13_l11, M]) := hms.pick [some 1, some 0, some 2] _ rfl
   have hsb2 : ∀ x ∈ fl ([[b_p0]] ++ [blk a13_l11, M]), x ∈ fl [blk a13_l11, [b_p0], M] := pick_sub [some 1, some 0, some 2] _ rfl
   have hst0 := Stp.call (LS := [blk a13_l11, [b_p0], M]) (res := []) (par := [[b_p0]]) (R := [blk a13_l11, M]) he22 (fun b hb => hsb2 b (fl_left' (P := [[b_p0]]) b hb)) (FR.nil _) (NP.init _ _) (fun x hx => hsb2 x (fl_right' (P := [[b_p0]]) x hx))
   have hsn : ∀ x ∈ fl [blk a13_l11, [b_p0], M], x ∈ fl ([] ++ ([[b_p0]] ++ [blk a13_l11, M])) := pick_sub [some 1, some 0, some 2] _ rfl
   have hst := hst0.res hsn
   replace hs_p0_0 := hs_p0_0.step hst
   replace hj13_l11 := hj13_l11.step hst he22 (MS.outs (P := [[b_p0]]) hpk2 0 rfl)
   replace hms := hms.ev he22
   replace hev := hev.then he22 (fun b hb => .inl (by simpa using hb))
   replace hb_p0 := hp22_0
   clear hpk hsb hsb0 hpk2 hsb2 hst0 hsn hst
   refine x_pure 2 [(43, Vp b_p0 0), (44, Vi (IntKind.i64.wrap (1 + x7.1)))] _ _ _ (by kernel_rfl) ?_
   obtain ⟨x23, hx, h⟩ := bind_some h
   have hpk : MS w22 ([[b_p0]] ++ [blk a13_l11, M]) := hms.pick [some 1, some 0, some 2] _ rfl
   have hsb0 : ∀ x ∈ fl ([[b_p0]] ++ [blk a13_l11, M]), x ∈ fl [blk a13_l11, [b_p0], M] := pick_sub [some 1, some 0, some 2] _ rfl
   have hsb : ∀ x ∈ fl ([[b_p0]] ++ [(fl [blk a13_l11, M])]), x ∈ fl [blk a13_l11, [b_p0], M] := fun x hx => hsb0 x (fl_unfold x hx)
   have hcall := gen_Maker_Next_w b_p0 a_p0_0 c_p0_0 p0_0 x21.2 (IntKind.i64.wrap (1 + x7.1)) _ w22 (fl [blk a13_l11, M]) (hpk.fold (P := [[b_p0]])) (hs_p0_0.sub hsb) hb_p0 hx
   refine x_call 37 #[] #[] [Vp b_p0 0, Vi (IntKind.i64.wrap (1 + x7.1))] _ rfl rfl rfl rfl hcall ?_
   rintro v w24 ⟨rfl, he24, hp24_0⟩
   clear hcall hx
   refine inl1 ?_
   have hpk2 : MS w22 ([[b_p0]] ++ [blk a13_l11, M]) := hms.pick [some 1, some 0, some 2] _ rfl
   have hsb2 : ∀ x ∈ fl ([[b_p0]] ++ [blk a13_l11, M]), x ∈ fl [blk a13_l11, [b_p0], M] := pick_sub [some 1, some 0, some 2] _ rfl
   have hst0 := Stp.call (LS := [blk a13_l11, [b_p0], M]) (res := []) (par := [[b_p0]]) (R := [blk a13_l11, M]) he24 (fun b hb => hsb2 b (fl_left' (P := [[b_p0]]) b hb)) (FR.nil _) (NP.init _ _) (fun x hx => hsb2 x (fl_right' (P := [[b_p0]]) x hx))
   have hsn : ∀ x ∈ fl [blk a13_l11, [b_p0], M], x ∈ fl ([] ++ ([[b_p0]] ++ [blk a13_l11, M])) := pick_sub [some 1, some 0, some 2] _ rfl
   have hst := hst0.res hsn
   replace hs_p0_0 := hs_p0_0.step hst
   replace hj13_l11 := hj13_l11.step hst he24 (MS.outs (P := [[b_p0]]) hpk2 0 rfl)
   replace hms := hms.ev he24
   replace hev := hev.then he24 (fun b hb => .inl (by simpa using hb))
   replace hb_p0 := hp24_0
   clear hpk hsb hsb0 hpk2 hsb2 hst0 hsn hst
   refine x_pure 2 [(46, Vi round_s9_j15), (47, Vp b_p0 0)] _ _ _ (by kernel_rfl) ?_
   refine x_buildSlice (vs := [(0, Vi 80), (1, Vi 142), (2, Vi 199), (3, Vi 262)]) #[Vi 80, Vi 142, Vi 199, Vi 262] 3 rfl rfl rfl (by kernel_rfl) (fun b25 w25 hq25 hb25 he25 hz25 => ?_)
   refine inl1 ?_
   have hms0 := hms
   have hst := Stp.ext (ls := [blk a13_l11, [b_p0], M]) he25
   replace hb_p0 := he25.box hb_p0 nn
   replace hs_p0_0 := hs_p0_0.step hst
   replace hj13_l11 := hj13_l11.step hst he25 nn2
   replace hms := hms.ev he25
   replace hev := hev.ext he25
   have hs25 : SlR (eInt .i64) w25 (fl [blk a13_l11, [b_p0], M]) (Ad b25 0) 4 ([80, 142, 199, 262]) := ro_of_box hms0 hq25 hb25 rfl rfl (cells_at (cs := [Vi 80, Vi 142, Vi 199, Vi 262]) (CellsOf.cons (c := [Vi 80]) rfl (CellsOf.cons (c := [Vi 142]) rfl (CellsOf.cons (c := [Vi 199]) rfl (CellsOf.cons (c := [Vi 262]) rfl CellsOf.nil)))))
   clear hb25 hms0
   obtain ⟨x27, hx, h⟩ := bind_some h
   have hpk : MS w25 ([[b_p0]] ++ [blk a13_l11, M]) := hms.pick [some 1, some 0, some 2] _ rfl
   have hsb0 : ∀ x ∈ fl ([[b_p0]] ++ [blk a13_l11, M]), x ∈ fl [blk a13_l11, [b_p0], M] := pick_sub [some 1, some 0, some 2] _ rfl
   have hsb : ∀ x ∈ fl ([[b_p0]] ++ [(fl [blk a13_l11, M])]), x ∈ fl [blk a13_l11, [b_p0], M] := fun x hx => hsb0 x (fl_unfold x hx)
   have hcall := gen_Maker_Pick_w b_p0 a_p0_0 c_p0_0 p0_0 x23.2 (Ad b25 0) 4 ([80, 142, 199, 262]) _ w25 (fl [blk a13_l11, M]) (hpk.fold (P := [[b_p0]])) (hs_p0_0.sub hsb) hb_p0 (hs25.sub hsb) hx
   refine x_call 31 #[] #[] [Vp b_p0 0, .slice (Ad b25 0) ([80, 142, 199, 262]).length 4] _ rfl rfl rfl rfl hcall ?_
   rintro v w28 ⟨rfl, he28, hp28_0⟩
   clear hcall hx
   refine inl1 ?_
   have hpk2 : MS w25 ([[b_p0]] ++ [blk a13_l11, M]) := hms.pick [some 1, some 0, some 2] _ rfl
   have hsb2 : ∀ x ∈ fl ([[b_p0]] ++ [blk a13_l11, M]), x ∈ fl [blk a13_l11, [b_p0], M] := pick_sub [some 1, some 0, some 2] _ rfl
   have hst0 := Stp.call (LS := [blk a13_l11, [b_p0], M]) (res := []) (par := [[b_p0]]) (R := [blk a13_l11, M]) he28 (fun b hb => hsb2 b (fl_left' (P := [[b_p0]]) b hb)) (FR.nil _) (NP.init _ _) (fun x hx => hsb2 x (fl_right' (P := [[b_p0]]) x hx))
   have hsn : ∀ x ∈ fl [blk a13_l11, [b_p0], M], x ∈ fl ([] ++ ([[b_p0]] ++ [blk a13_l11, M])) := pick_sub [some 1, some 0, some 2] _ rfl
   have hst := hst0.res hsn
   replace hs_p0_0 := hs_p0_0.step hst
   replace hj13_l11 := hj13_l11.step hst he28 (MS.outs (P := [[b_p0]]) hpk2 0 rfl)
   replace hs25 := hs25.step hst
   replace hms := hms.ev he28
   replace hev := hev.then he28 (fun b hb => .inl (by simpa using hb))
   replace hb_p0 := hp28_0
   clear hpk hsb hsb0 hpk2 hsb2 hst0 hsn hst
   refine x_build (vs := [(0, Vi x21.1), (1, Vi x23.1), (2, Vi round_s9_j15), (3, Vi x27.1)]) (.agg #[Vi x21.1, Vi x23.1, Vi round_s9_j15, Vi x27.1]) rfl rfl rfl (fun _ _ => by kernel_rfl) ?_
   refine x_buildSlice (vs := [(0, .agg #[Vi x21.1, Vi x23.1, Vi round_s9_j15, Vi x27.1])]) #[Vi x21.1, Vi x23.1, Vi round_s9_j15, Vi x27.1] 79 rfl rfl rfl (by kernel_rfl) (fun b29 w29 hq29 hb29 he29 hz29 => ?_)
   refine inl1 ?_
   have hms0 := hms
   have hst := Stp.ext (ls := [blk a13_l11, [b_p0], M]) he29
   replace hb_p0 := he29.box hb_p0 nn
   replace hs_p0_0 := hs_p0_0.step hst
   replace hj13_l11 := hj13_l11.step hst he29 nn2
   replace hs25 := hs25.step hst
   replace hms := hms.ev he29
   replace hev := hev.ext he29
   have hs29 : SlR (eIt4) w29 (fl [blk a13_l11, [b_p0], M]) (Ad b29 0) 1 ([(x21.1, x23.1, round_s9_j15, x27.1)] : List (Int × Int × Int × Int)) := ro_of_box hms0 hq29 hb29 rfl rfl (cells_at (cs := [Vi x21.1, Vi x23.1, Vi round_s9_j15, Vi x27.1]) (CellsOf.cons (c := [Vi x21.1, Vi x23.1, Vi round_s9_j15, Vi x27.1]) ⟨[Vi x21.1], [Vi x23.1, Vi round_s9_j15, Vi x27.1], rfl, rfl, ⟨[Vi x23.1], [Vi round_s9_j15, Vi x27.1], rfl, rfl, ⟨[Vi round_s9_j15], [Vi x27.1], rfl, rfl, rfl⟩⟩⟩ CellsOf.nil))
   clear hb29 hms0
   have hg := guard_l h
   replace h := guard_r h
   obtain ⟨a31, c31, w31, hr31, he31, hn31, hm31, hw31⟩ := own_appendN tel23 23 hj13_l11 (mem_flat 0 rfl) hs29 hg
   refine x_builtin (vs := [.slice a13_l11 (d13_l11).length c13_l11, .slice (Ad b29 0) (([(x21.1, x23.1, round_s9_j15, x27.1)] : List (Int × Int × Int × Int))).length 1]) _ w31 rfl rfl rfl rfl (run_value _ _ _ _ hr31) ?_
   refine inl1 ?_
   have hst : Stp (fl [blk a13_l11, [b_p0], M]) w29 (fl [blk a31, [b_p0], M]) w31 := Stp.upd 0 he31 rfl (fun b hb => (hn31 b hb).1)
   replace hb_p0 := he31.box hb_p0 (hms.apart 1 0 rfl rfl rfl _ mem1)
   replace hs_p0_0 := hs_p0_0.step hst
   replace hs25 := hs25.step hst
   replace hs29 := hs29.step hst
   replace hms : MS w31 [blk a31, [b_p0], M] := hms.upd 0 he31 rfl hn31
   have hfr2 : FR w.heap.size [blk a31] := hfr.upd 0 rfl hev.size (fun b hb => (hn31 b hb).1)
   replace hev := hev.then he31 (fun b hb => .inr (hfr.at 0 rfl b hb))
   replace hfr := hfr2
   clear hfr2
   replace hj13_l11 := hw31 (fl [blk a31, [b_p0], M]) hst.new
   clear hw31
   refine x_pure 1 [(5, .slice a31 ((d13_l11 ++ ([(x21.1, x23.1, round_s9_j15, x27.1)] : List (Int × Int × Int × Int)))).length c31)] _ _ _ (by kernel_rfl) ?_
   refine x_end rfl ?_
   refine k_block ?_
   refine k_then ?_
   refine c_norm [(0, Vp b_p0 0), (5, .slice a31 ((d13_l11 ++ ([(x21.1, x23.1, round_s9_j15, x27.1)] : List (Int × Int × Int × Int)))).length c31), (6, .bool (x3.1 == 0)), (7, Vi (IntKind.i64.wrap (1 + x5.1))), (8, Vi (IntKind.i64.wrap (1 + x7.1))), (9, Vi round_s9_j15), (10, Vi i_s10_l11)] ⟨rfl, rfl, rfl, rfl, rfl, rfl, rfl, trivial⟩ (fun J => ?_)
   refine c_plain ?_
   refine x_pure 3 [(26, Vi i_s10_l11), (27, Vi (IntKind.i64.wrap (i_s10_l11 - 1))), (10, Vi (IntKind.i64.wrap (i_s10_l11 - 1)))] _ _ _ (by kernel_rfl) ?_
   refine x_end rfl ?_
   have hx := some_inj h
   subst hx
   exact k_then ⟨(m11, x27.2, (d13_l11 ++ ([(x21.1, x23.1, round_s9_j15, x27.1)] : List (Int × Int × Int × Int))), round_s9_j15, IntKind.i64.wrap (i_s10_l11 - 1), a31, c31), ⟨rfl, rfl, rfl, rfl, rfl, rfl, rfl, trivial⟩, ⟨hn11, hev, hms, hfr, hs_p0_0, hb_p0, hj13_l11⟩, Nat.lt_succ_self _⟩
 replace h := ite_f hb h
 refine c_exit ?_
 refine k_then_exit ?_
 have hx := some_inj h
 subst hx
 have hy := some_inj hn11
 subst hy
 replace h := h11
 refine k_then_exit ?_
 refine k_block_in ?_
 refine k_then ?_
 refine c_norm [(5, .slice a13_l11 (d13_l11).length c13_l11)] ⟨rfl, trivial⟩ (fun J => ?_)
 refine c_sp ?_
 refine x_pure 2 [(53, .slice a13_l11 (d13_l11).length c13_l11), (4, .slice a13_l11 (d13_l11).length c13_l11)] _ _ _ (by kernel_rfl) ?_
 refine x_ek ?_
 refine c_ret ?_
 refine r_ret (r_vals [.slice a13_l11 (d13_l11).length c13_l11] ⟨rfl, trivial⟩ ?_)
 have hx := some_inj h
 subst hx
 have hmr : MS wl11 [blk a13_l11, [b_p0], M] := hms.pick [some 0, some 1, some 2] _ rfl
 have hsu : ∀ x ∈ fl [blk a13_l11, [b_p0], M], x ∈ fl [blk a13_l11, [b_p0], M] := pick_sub [some 0, some 1, some 2] _ rfl
 have hfe : FR w.heap.size [blk a13_l11] := hfr.pick [some 0] _ rfl
 exact ⟨a13_l11, c13_l11, rfl, hev, hb_p0, hmr, hfe, hj13_l11.sub hsu⟩
def gen_Maker_Job (p0_0 : List Int) (p0_1 : Int) (p1 : Int) : Option (((List (Int × Int × Int × Int)) × Int) × Int) :=
((gen_Maker_Items p0_0 p0_1 p1).bind fun x5 =>
((gen_Maker_Pick p0_0 x5.2 ([0, 1, 2, 3, 12, 12, 12])).bind fun x10 =>
some ((x5.1, x10.1), x10.2)))

theorem gen_Maker_Job_w (b_p0 : Nat) (a_p0_0 : Option Addr) (c_p0_0 : Nat) (p0_0 : List Int) (p0_1 : Int) (p1 : Int) (r : ((List (Int × Int × Int × Int)) × Int) × Int) (w : World) (M : List Nat) (hms : MS w [[b_p0], M]) (hs_p0_0 : SlR (eInt .i64) w (fl [[b_p0], M]) a_p0_0 c_p0_0 p0_0) (hb_p0 : w.heap[b_p0]? = some (.cells #[.slice a_p0_0 (p0_0).length c_p0_0, Vi p0_1] 65 (0, 0))) (h : gen_Maker_Job p0_0 p0_1 p1 = some r) : CallVC Try.prog 9 [Vp b_p0 0, Vi p1] w fun v w' => ∃ (a0' : Option Addr), ∃ (c0' : Nat), v = .agg #[.slice a0' (r.1.1).length c0', Vi r.1.2] ∧ Ev [b_p0] w w' ∧ w'.heap[b_p0]? = some (.cells #[.slice a_p0_0 (p0_0).length c_p0_0, Vi r.2] 65 (0, 0)) ∧ MS w' [blk a0', [b_p0], M] ∧ FR w.heap.size [blk a0'] ∧ OwnS (eIt4) 79 w' (fl [blk a0', [b_p0], M]) a0' c0' r.1.1 := by
 refine calls_vc hmx Try.func9 (by kernel_rfl) rfl (rs := [.cell 4 25]) rfl (by kernel_rfl) (args := [Vp b_p0 0, Vi p1]) rfl ?_
 have hev : Ev [b_p0] w w := Ev.refl _ _
 have hfr : FR w.heap.size [] := FR.nil _
 refine c_sp ?_
 refine x_alloc (z := .agg #[.slice none 0 0, Vi 0]) rfl rfl (by kernel_rfl) (fun b3 w3 hq3 hb3 he3 hz3 => ?_)
 replace hb3 : w3.heap[b3]? = some (.cells #[.slice none 0 0, Vi 0] 25 (0, 0)) := hb3
 refine inl1 ?_
 have hst := Stp.box (ls := [[b_p0], M]) he3 hq3
 replace hs_p0_0 := hs_p0_0.step hst
 replace hb_p0 := he3.box hb_p0 nn
 replace hms := hms.box he3 hq3 hb3
 replace hfr := hfr.box hev.size hq3
 replace hev := hev.ext he3
 refine x_ek ?_
 refine c_sp ?_
 refine x_pure 2 [(5, Vp b_p0 0), (6, Vi p1)] _ _ _ (by kernel_rfl) ?_
 obtain ⟨x5, hx, h⟩ := bind_some h
 have hpk : MS w3 ([[b_p0]] ++ [[b3], M]) := hms.pick [some 1, some 0, some 2] _ rfl
 have hsb0 : ∀ x ∈ fl ([[b_p0]] ++ [[b3], M]), x ∈ fl [[b3], [b_p0], M] := pick_sub [some 1, some 0, some 2] _ rfl
 have hsb : ∀ x ∈ fl ([[b_p0]] ++ [(fl [[b3], M])]), x ∈ fl [[b3], [b_p0], M] := fun x hx => hsb0 x (fl_unfold x hx)
 have hcall := gen_Maker_Items_w b_p0 a_p0_0 c_p0_0 p0_0 p0_1 p1 _ w3 (fl [[b3], M]) (hpk.fold (P := [[b_p0]])) (hs_p0_0.sub hsb) hb_p0 hx
 refine x_call 30 #[] #[] [Vp b_p0 0, Vi p1] _ rfl rfl rfl rfl hcall ?_
 rintro v w6 ⟨a0_6, c0_6, rfl, he6, hp6_0, hmn6, hfn6, hf6_1⟩
 clear hcall hx
 refine inl1 ?_
 have hpk2 : MS w3 ([[b_p0]] ++ [[b3], M]) := hms.pick [some 1, some 0, some 2] _ rfl
 have hsb2 : ∀ x ∈ fl ([[b_p0]] ++ [[b3], M]), x ∈ fl [[b3], [b_p0], M] := pick_sub [some 1, some 0, some 2] _ rfl
 have hst0 := Stp.call (LS := [[b3], [b_p0], M]) (res := [blk a0_6]) (par := [[b_p0]]) (R := [[b3], M]) he6 (fun b hb => hsb2 b (fl_left' (P := [[b_p0]]) b hb)) hfn6 (NP.init _ _) (fun x hx => hsb2 x (fl_right' (P := [[b_p0]]) x hx))
 have hsn : ∀ x ∈ fl [blk a0_6, [b3], [b_p0], M], x ∈ fl ([blk a0_6] ++ ([[b_p0]] ++ [[b3], M])) := pick_sub [some 0, some 2, some 1, some 3] _ rfl
 have hst := hst0.res hsn
 replace hs_p0_0 := hs_p0_0.step hst
 replace hb3 := he6.box hb3 ((MS.outs (P := [[b_p0]]) hpk2 0 rfl) _ mem1)
 replace hms : MS w6 [blk a0_6, [b3], [b_p0], M] := (MS.call (P := [[b_p0]]) (R := [[b3], M]) (res := [blk a0_6]) (par := [[b_p0]]) hpk2 he6 hmn6 hfn6 (NP.init _ _)).pick [some 0, some 2, some 1, some 3] _ rfl
 have hfr2 : FR w.heap.size [blk a0_6, [b3]] := (FR.cons (fun b hb => Nat.le_trans hev.size (hfn6.at 0 rfl b hb)) (FR.cons (hfr.at 0 rfl) (FR.nil _)))
 replace hev := hev.then he6 (fun b hb => .inl (by simpa using hb))
 replace hfr := hfr2
 clear hfr2
 replace hb_p0 := hp6_0
 replace hf6_1 := OwnS.plain (M' := fl [blk a0_6, [b3], [b_p0], M]) (plain_prod (plain_int _) (plain_prod (plain_int _) (plain_prod (plain_int _) (plain_int _)))) hf6_1
 clear hpk hsb hsb0 hpk2 hsb2 hst0 hsn hst
 refine x_pure 1 [(8, Vp b_p0 0)] _ _ _ (by kernel_rfl) ?_
 refine x_buildSlice (vs := [(0, Vi 0), (1, Vi 1), (2, Vi 2), (3, Vi 3), (4, Vi 12), (5, Vi 12), (6, Vi 12)]) #[Vi 0, Vi 1, Vi 2, Vi 3, Vi 12, Vi 12, Vi 12] 3 rfl rfl rfl (by kernel_rfl) (fun b8 w8 hq8 hb8 he8 hz8 => ?_)
 refine inl1 ?_
 have hms0 := hms
 have hst := Stp.ext (ls := [blk a0_6, [b3], [b_p0], M]) he8
 replace hs_p0_0 := hs_p0_0.step hst
 replace hb_p0 := he8.box hb_p0 nn
 replace hb3 := he8.box hb3 nn
 replace hf6_1 := hf6_1.step hst he8 nn2
 replace hms := hms.ev he8
 replace hev := hev.ext he8
 have hs8 : SlR (eInt .i64) w8 (fl [blk a0_6, [b3], [b_p0], M]) (Ad b8 0) 7 ([0, 1, 2, 3, 12, 12, 12]) := ro_of_box hms0 hq8 hb8 rfl rfl (cells_at (cs := [Vi 0, Vi 1, Vi 2, Vi 3, Vi 12, Vi 12, Vi 12]) (CellsOf.cons (c := [Vi 0]) rfl (CellsOf.cons (c := [Vi 1]) rfl (CellsOf.cons (c := [Vi 2]) rfl (CellsOf.cons (c := [Vi 3]) rfl (CellsOf.cons (c := [Vi 12]) rfl (CellsOf.cons (c := [Vi 12]) rfl (CellsOf.cons (c := [Vi 12]) rfl CellsOf.nil))))))))
 clear hb8 hms0
 obtain ⟨x10, hx, h⟩ := bind_some h
 have hpk : MS w8 ([[b_p0]] ++ [blk a0_6, [b3], M]) := hms.pick [some 2, some 0, some 1, some 3] _ rfl
 have hsb0 : ∀ x ∈ fl ([[b_p0]] ++ [blk a0_6, [b3], M]), x ∈ fl [blk a0_6, [b3], [b_p0], M] := pick_sub [some 2, some 0, some 1, some 3] _ rfl
 have hsb : ∀ x ∈ fl ([[b_p0]] ++ [(fl [blk a0_6, [b3], M])]), x ∈ fl [blk a0_6, [b3], [b_p0], M] := fun x hx => hsb0 x (fl_unfold x hx)
 have hcall := gen_Maker_Pick_w b_p0 a_p0_0 c_p0_0 p0_0 x5.2 (Ad b8 0) 7 ([0, 1, 2, 3, 12, 12, 12]) _ w8 (fl [blk a0_6, [b3], M]) (hpk.fold (P := [[b_p0]])) (hs_p0_0.sub hsb) hb_p0 (hs8.sub hsb) hx
 refine x_call 31 #[] #[] [Vp b_p0 0, .slice (Ad b8 0) ([0, 1, 2, 3, 12, 12, 12]).length 7] _ rfl rfl rfl rfl hcall ?_
 rintro v w11 ⟨rfl, he11, hp11_0⟩
 clear hcall hx
 refine inl1 ?_
 have hpk2 : MS w8 ([[b_p0]] ++ [blk a0_6, [b3], M]) := hms.pick [some 2, some 0, some 1, some 3] _ rfl
 have hsb2 : ∀ x ∈ fl ([[b_p0]] ++ [blk a0_6, [b3], M]), x ∈ fl [blk a0_6, [b3], [b_p0], M] := pick_sub [some 2, some 0, some 1, some 3] _ rfl
 have hst0 := Stp.call (LS := [blk a0_6, [b3], [b_p0], M]) (res := []) (par := [[b_p0]]) (R := [blk a0_6, [b3], M]) he11 (fun b hb => hsb2 b (fl_left' (P := [[b_p0]]) b hb)) (FR.nil _) (NP.init _ _) (fun x hx => hsb2 x (fl_right' (P := [[b_p0]]) x hx))
 have hsn : ∀ x ∈ fl [blk a0_6, [b3], [b_p0], M], x ∈ fl ([] ++ ([[b_p0]] ++ [blk a0_6, [b3], M])) := pick_sub [some 1, some 2, some 0, some 3] _ rfl
 have hst := hst0.res hsn
 replace hs_p0_0 := hs_p0_0.step hst
 replace hb3 := he11.box hb3 ((MS.outs (P := [[b_p0]]) hpk2 1 rfl) _ mem1)
 replace hf6_1 := hf6_1.step hst he11 (MS.outs (P := [[b_p0]]) hpk2 0 rfl)
 replace hs8 := hs8.step hst
 replace hms := hms.ev he11
 replace hev := hev.then he11 (fun b hb => .inl (by simpa using hb))
 replace hb_p0 := hp11_0
 clear hpk hsb hsb0 hpk2 hsb2 hst0 hsn hst
 refine x_build (vs := [(0, .slice a0_6 (x5.1).length c0_6), (1, Vi x10.1)]) (.agg #[.slice a0_6 (x5.1).length c0_6, Vi x10.1]) rfl rfl rfl (fun _ _ => by kernel_rfl) ?_
 obtain ⟨w12, hr12, hb12, he12⟩ := store_boxagg 0 [.slice a0_6 (x5.1).length c0_6, Vi x10.1] #[.slice a0_6 (x5.1).length c0_6, Vi x10.1] tagg25 hb3 rfl rfl rfl
 refine x_store w12 (xv := Vp b3 0) (yv := .agg #[.slice a0_6 (x5.1).length c0_6, Vi x10.1]) rfl rfl rfl rfl hr12 ?_
 refine inl1 ?_
 have hst := Stp.ev' (ls := [blk a0_6, [b3], [b_p0], M]) he12 (mem_flat 1 rfl)
 replace hs_p0_0 := hs_p0_0.step hst
 replace hb_p0 := he12.box hb_p0 (hms.apart 2 1 rfl rfl rfl _ mem1)
 replace hf6_1 := hf6_1.step hst he12 (hms.apart 0 1 rfl rfl rfl)
 replace hs8 := hs8.step hst
 replace hms := hms.ev he12
 replace hev := hev.then he12 (fun b hb => .inr (hfr.at 1 rfl b hb))
 replace hb3 := hb12
 refine x_ek ?_
 refine c_ret ?_
 refine r_ret (r_vals [.agg #[.slice a0_6 (x5.1).length c0_6, Vi x10.1]] ⟨⟨_, rfl, loadVar_of_reads (reads_boxagg (Mo := []) 0 [.slice a0_6 (x5.1).length c0_6, Vi x10.1] tagg25 hb3 nn rfl)⟩, trivial⟩ ?_)
 have hx := some_inj h
 subst hx
 have hmr : MS w12 [blk a0_6, [b_p0], M] := hms.pick [some 0, some 2, some 3] _ rfl
 have hsu : ∀ x ∈ fl [blk a0_6, [b_p0], M], x ∈ fl [blk a0_6, [b3], [b_p0], M] := pick_sub [some 0, some 2, some 3] _ rfl
 have hfe : FR w.heap.size [blk a0_6] := hfr.pick [some 0] _ rfl
 exact ⟨a0_6, c0_6, rfl, hev, hb_p0, hmr, hfe, hf6_1.sub hsu⟩
def gen_Ints_L4 (p0 : List Int) (p1 : List Int) (s : Int) : Option (Step Int (Unit ⊕ Unit)) :=
match s with
| i_s5_l4 =>
(if (decide (i_s5_l4 < ((p0).length : Int))) = true then
((idx p0 i_s5_l4).bind fun x6 =>
((idx p1 i_s5_l4).bind fun x8 =>
(if (x6 != x8) = true then
some (.done (.inl ()))
else
some (.next (IntKind.i64.wrap (i_s5_l4 + 1))))))
else
some (.done (.inr ())))

def gen_Ints (p0 : List Int) (p1 : List Int) : Option Bool :=
(if (((p0).length : Int) != ((p1).length : Int)) = true then
some false
else
((loop (gen_Ints_L4 p0 p1) 0).bind fun d => match d with
| (.inl _) => some false
| (.inr _) => some true))

theorem gen_Ints_w (a_p0 : Option Addr) (c_p0 : Nat) (p0 : List Int) (a_p1 : Option Addr) (c_p1 : Nat) (p1 : List Int) (r : Bool) (w : World) (M : List Nat) (hms : MS w [M]) (hs_p0 : SlR (eInt .i64) w (fl [M]) a_p0 c_p0 p0) (hs_p1 : SlR (eInt .i64) w (fl [M]) a_p1 c_p1 p1) (h : gen_Ints p0 p1 = some r) : CallVC Try.prog 36 [.slice a_p0 (p0).length c_p0, .slice a_p1 (p1).length c_p1] w fun v w' => v = .bool r ∧ Ev [] w w' := by
 refine calls_vc hmx Try.func36 (by kernel_rfl) rfl (rs := [.tmp 4]) rfl (by kernel_rfl) (args := [.slice a_p0 (p0).length c_p0, .slice a_p1 (p1).length c_p1]) rfl ?_
 have hev : Ev [] w w := Ev.refl _ _
 have hfr : FR w.heap.size [] := FR.nil _
 refine c_sp ?_
 refine x_pure 1 [(4, .bool false)] _ _ _ (by kernel_rfl) ?_
 refine x_ek ?_
 refine c_seq ?_
 refine c_sp ?_
 refine x_pure 1 [(6, .slice a_p0 (p0).length c_p0)] _ _ _ (by kernel_rfl) ?_
 refine x_len (vs := [.slice a_p0 (p0).length c_p0]) (Vi ((p0).length : Int)) rfl rfl rfl (reads_len tsl22 _ _ _ _ _) ?_
 refine x_pure 1 [(8, .slice a_p1 (p1).length c_p1)] _ _ _ (by kernel_rfl) ?_
 refine x_len (vs := [.slice a_p1 (p1).length c_p1]) (Vi ((p1).length : Int)) rfl rfl rfl (reads_len tsl22 _ _ _ _ _) ?_
 refine x_pure 1 [(10, .bool (((p0).length : Int) != ((p1).length : Int)))] _ _ _ (by kernel_rfl) ?_
 refine x_ek ?_
 refine c_cond (((p0).length : Int) != ((p1).length : Int)) rfl (fun hb => ?_) (fun hb => ?_)
 · replace h := ite_t hb h
   refine c_sp ?_
   refine x_pure 1 [(4, .bool false)] _ _ _ (by kernel_rfl) ?_
   refine x_ek ?_
   refine c_ret ?_
   refine k_then_ret ?_
   refine r_ret (r_vals [.bool false] ⟨rfl, trivial⟩ ?_)
   have hx := some_inj h
   subst hx
   have hmr : MS w [M] := hms.pick [some 0] _ rfl
   have hsu : ∀ x ∈ fl [M], x ∈ fl [M] := pick_sub [some 0] _ rfl
   exact ⟨rfl, hev⟩
 replace h := ite_f hb h
 refine c_skip ?_
 refine k_then ?_
 refine c_seq ?_
 refine c_sp ?_
 refine x_pure 1 [(5, Vi 0)] _ _ _ (by kernel_rfl) ?_
 refine x_ek ?_
 refine c_block ?_
 obtain ⟨d4, hd4, h4⟩ := bind_some h
 obtain ⟨m4, hd4⟩ := loop_some hd4
 refine c_loop (loop_rule hmx (σ := Nat × Int) (fun s => match s with | (_, i_s5_l4) => [(0, .slice a_p0 (p0).length c_p0), (1, .slice a_p1 (p1).length c_p1), (5, Vi i_s5_l4)]) (fun s w' => match s with | (m, i_s5_l4) => loopN (gen_Ints_L4 p0 p1) m i_s5_l4 = some d4 ∧ Ev [] w w' ∧ MS w' [M] ∧ FR w.heap.size [] ∧ SlR (eInt .i64) w' (fl [M]) a_p0 c_p0 p0 ∧ SlR (eInt .i64) w' (fl [M]) a_p1 c_p1 p1) (fun s => s.1) (m4, 0) ⟨rfl, rfl, rfl, trivial⟩ ⟨hd4, hev, hms, hfr, hs_p0, hs_p1⟩ ?_)
 rintro ⟨m4, i_s5_l4⟩ J wl4 ⟨hn4, hev, hms, hfr, hs_p0, hs_p1⟩
 rcases m4 with _ | m4
 · exact (loopN_zero hn4).elim
 obtain ⟨t4, h, hn4⟩ := bind_some hn4
 refine c_seq ?_
 refine c_sp ?_
 refine x_pure 2 [(11, Vi i_s5_l4), (12, .slice a_p0 (p0).length c_p0)] _ _ _ (by kernel_rfl) ?_
 refine x_len (vs := [.slice a_p0 (p0).length c_p0]) (Vi ((p0).length : Int)) rfl rfl rfl (reads_len tsl22 _ _ _ _ _) ?_
 refine x_pure 1 [(14, .bool (decide (i_s5_l4 < ((p0).length : Int))))] _ _ _ (by kernel_rfl) ?_
 refine x_ek ?_
 refine c_norm [(0, .slice a_p0 (p0).length c_p0), (1, .slice a_p1 (p1).length c_p1), (5, Vi i_s5_l4), (14, .bool (decide (i_s5_l4 < ((p0).length : Int))))] ⟨rfl, rfl, rfl, rfl, trivial⟩ (fun J => ?_)
 refine c_cond (decide (i_s5_l4 < ((p0).length : Int))) rfl (fun hb => ?_) (fun hb => ?_)
 · replace h := ite_t hb h
   refine c_skip ?_
   refine k_then ?_
   refine c_seq ?_
   refine c_block ?_
   refine c_seq ?_
   refine c_drawn [] [(0, false), (1, false), (2, false), (3, false), (4, false), (5, false), (6, false), (7, false), (8, false)] _ (by kernel_rfl) rfl ?_
   have hst := Stp.ext (ls := [M]) (Ev.drew wl4)
   replace hs_p0 := hs_p0.step hst
   replace hs_p1 := hs_p1.step hst
   replace hms := hms.ev (Ev.drew wl4)
   replace hev := hev.ext (Ev.drew wl4)
   refine x_pure 2 [(17, .slice a_p0 (p0).length c_p0), (18, Vi i_s5_l4)] _ _ _ (by kernel_rfl) ?_
   obtain ⟨x6, hx6, h⟩ := bind_some h
   obtain ⟨ad6, cs6, hr6, hc6, hR⟩ := reads_index (Mo := []) tsl22 hs_p0 hx6
   obtain rfl := hR
   refine x_indexAddr (xv := .slice a_p0 (p0).length c_p0) (yv := Vi i_s5_l4) (.pointer (some ad6)) rfl rfl rfl rfl hr6 ?_
   refine x_load (xv := .pointer (some ad6)) (Vi x6) rfl rfl rfl (reads_cell0 tcell3 hc6 (fun _ h => by cases h)) ?_
   refine x_pure 2 [(21, .slice a_p1 (p1).length c_p1), (22, Vi i_s5_l4)] _ _ _ (by kernel_rfl) ?_
   obtain ⟨x8, hx8, h⟩ := bind_some h
   obtain ⟨ad8, cs8, hr8, hc8, hR⟩ := reads_index (Mo := []) tsl22 hs_p1 hx8
   obtain rfl := hR
   refine x_indexAddr (xv := .slice a_p1 (p1).length c_p1) (yv := Vi i_s5_l4) (.pointer (some ad8)) rfl rfl rfl rfl hr8 ?_
   refine x_load (xv := .pointer (some ad8)) (Vi x8) rfl rfl rfl (reads_cell0 tcell3 hc8 (fun _ h => by cases h)) ?_
   refine x_pure 1 [(25, .bool (x6 != x8))] _ _ _ (by kernel_rfl) ?_
   refine x_ek ?_
   refine c_cond (x6 != x8) rfl (fun hb => ?_) (fun hb => ?_)
   · replace h := ite_t hb h
     refine c_sp ?_
     refine x_pure 1 [(4, .bool false)] _ _ _ (by kernel_rfl) ?_
     refine x_ek ?_
     refine c_ret ?_
     refine k_block_ret ?_
     refine k_then_ret ?_
     have hx := some_inj h
     subst hx
     have hy := some_inj hn4
     subst hy
     replace h := h4
     refine k_then_ret ?_
     refine k_block_ret ?_
     refine k_then_ret ?_
     refine r_ret (r_vals [.bool false] ⟨rfl, trivial⟩ ?_)
     have hx := some_inj h
     subst hx
     have hmr : MS (wl4).drew [M] := hms.pick [some 0] _ rfl
     have hsu : ∀ x ∈ fl [M], x ∈ fl [M] := pick_sub [some 0] _ rfl
     exact ⟨rfl, hev⟩
   replace h := ite_f hb h
   refine c_skip ?_
   refine k_block ?_
   refine k_then ?_
   refine c_plain ?_
   refine x_pure 3 [(15, Vi i_s5_l4), (16, Vi (IntKind.i64.wrap (i_s5_l4 + 1))), (5, Vi (IntKind.i64.wrap (i_s5_l4 + 1)))] _ _ _ (by kernel_rfl) ?_
   refine x_end rfl ?_
   have hx := some_inj h
   subst hx
   exact k_then ⟨(m4, IntKind.i64.wrap (i_s5_l4 + 1)), ⟨rfl, rfl, rfl, trivial⟩, ⟨hn4, hev, hms, hfr, hs_p0, hs_p1⟩, Nat.lt_succ_self _⟩
 replace h := ite_f hb h
 refine c_exit ?_
 refine k_then_exit ?_
 have hx := some_inj h
 subst hx
 have hy := some_inj hn4
 subst hy
 replace h := h4
 refine k_then_exit ?_
 refine k_block_in ?_
 refine k_then ?_
 refine c_norm [] trivial (fun J => ?_)
 refine c_sp ?_
 refine x_pure 1 [(4, .bool true)] _ _ _ (by kernel_rfl) ?_
 refine x_ek ?_
 refine c_ret ?_
 refine r_ret (r_vals [.bool true] ⟨rfl, trivial⟩ ?_)
 have hx := some_inj h
 subst hx
 have hmr : MS wl4 [M] := hms.pick [some 0] _ rfl
 have hsu : ∀ x ∈ fl [M], x ∈ fl [M] := pick_sub [some 0] _ rfl
 exact ⟨rfl, hev⟩
def gen_Plans (p0_0 : Int) (p0_1 : List Int) (p1_0 : Int) (p1_1 : List Int) : Option Bool :=
(if (p0_0 == p1_0) = true then
((gen_Ints p0_1 p1_1).bind fun x7 =>
some x7)
else
some false)

theorem gen_Plans_w (p0_0 : Int) (a_p0_1 : Option Addr) (c_p0_1 : Nat) (p0_1 : List Int) (p1_0 : Int) (a_p1_1 : Option Addr) (c_p1_1 : Nat) (p1_1 : List Int) (r : Bool) (w : World) (M : List Nat) (hms : MS w [M]) (hs_p0_1 : SlR (eInt .i64) w (fl [M]) a_p0_1 c_p0_1 p0_1) (hs_p1_1 : SlR (eInt .i64) w (fl [M]) a_p1_1 c_p1_1 p1_1) (h : gen_Plans p0_0 p0_1 p1_0 p1_1 = some r) : CallVC Try.prog 35 [.agg #[Vi p0_0, .slice a_p0_1 (p0_1).length c_p0_1], .agg #[Vi p1_0, .slice a_p1_1 (p1_1).length c_p1_1]] w fun v w' => v = .bool r ∧ Ev [] w w' := by
 refine calls_vc hmx Try.func35 (by kernel_rfl) rfl (rs := [.tmp 4]) rfl (by kernel_rfl) (args := [.agg #[Vi p0_0, .slice a_p0_1 (p0_1).length c_p0_1], .agg #[Vi p1_0, .slice a_p1_1 (p1_1).length c_p1_1]]) rfl ?_
 have hev : Ev [] w w := Ev.refl _ _
 have hfr : FR w.heap.size [] := FR.nil _
 refine c_sp ?_
 refine x_box (xv := .agg #[Vi p0_0, .slice a_p0_1 (p0_1).length c_p0_1]) rfl rfl rfl (fun b3 w3 hq3 hb3 he3 hz3 => ?_)
 replace hb3 : w3.heap[b3]? = some (.cells #[Vi p0_0, .slice a_p0_1 (p0_1).length c_p0_1] 27 (0, 0)) := hb3
 refine inl1 ?_
 have hst := Stp.box (ls := [M]) he3 hq3
 replace hs_p0_1 := hs_p0_1.step hst
 replace hs_p1_1 := hs_p1_1.step hst
 replace hms := hms.box he3 hq3 hb3
 replace hfr := hfr.box hev.size hq3
 replace hev := hev.ext he3
 refine x_box (xv := .agg #[Vi p1_0, .slice a_p1_1 (p1_1).length c_p1_1]) rfl rfl rfl (fun b5 w5 hq5 hb5 he5 hz5 => ?_)
 replace hb5 : w5.heap[b5]? = some (.cells #[Vi p1_0, .slice a_p1_1 (p1_1).length c_p1_1] 27 (0, 0)) := hb5
 refine inl1 ?_
 have hst := Stp.box (ls := [[b3], M]) he5 hq5
 replace hs_p0_1 := hs_p0_1.step hst
 replace hs_p1_1 := hs_p1_1.step hst
 replace hb3 := he5.box hb3 nn
 replace hms := hms.box he5 hq5 hb5
 replace hfr := hfr.box hev.size hq5
 replace hev := hev.ext he5
 refine x_pure 1 [(4, .bool false)] _ _ _ (by kernel_rfl) ?_
 refine x_ek ?_
 refine c_sp ?_
 refine x_fieldAddr (xv := Vp b3 0) (Vp b3 0) rfl rfl rfl (reads_field tfld27_0 _ _) ?_
 refine x_load (xv := Vp b3 0) (Vi p0_0) rfl rfl rfl (reads_box tcell3 hb3 nn 0 _ rfl) ?_
 refine x_fieldAddr (xv := Vp b5 0) (Vp b5 0) rfl rfl rfl (reads_field tfld27_0 _ _) ?_
 refine x_load (xv := Vp b5 0) (Vi p1_0) rfl rfl rfl (reads_box tcell3 hb5 nn 0 _ rfl) ?_
 refine x_pure 2 [(9, .bool (p0_0 == p1_0)), (10, .bool (p0_0 == p1_0))] _ _ _ (by kernel_rfl) ?_
 refine x_split 10 (p0_0 == p1_0) rfl (fun hb => ?_) (fun hb => ?_)
 · replace h := ite_t hb h
   refine x_fieldAddr (xv := Vp b3 0) (Vp b3 1) rfl rfl rfl (reads_field tfld27_1 _ _) ?_
   refine x_load (xv := Vp b3 1) (.slice a_p0_1 (p0_1).length c_p0_1) rfl rfl rfl (reads_box tcell22 hb3 nn 1 _ rfl) ?_
   refine x_fieldAddr (xv := Vp b5 0) (Vp b5 1) rfl rfl rfl (reads_field tfld27_1 _ _) ?_
   refine x_load (xv := Vp b5 1) (.slice a_p1_1 (p1_1).length c_p1_1) rfl rfl rfl (reads_box tcell22 hb5 nn 1 _ rfl) ?_
   obtain ⟨x7, hx, h⟩ := bind_some h
   have hpk : MS w5 ([] ++ [[b5], [b3], M]) := hms.pick [some 0, some 1, some 2] _ rfl
   have hsb0 : ∀ x ∈ fl ([] ++ [[b5], [b3], M]), x ∈ fl [[b5], [b3], M] := pick_sub [some 0, some 1, some 2] _ rfl
   have hsb : ∀ x ∈ fl ([] ++ [(fl [[b5], [b3], M])]), x ∈ fl [[b5], [b3], M] := fun x hx => hsb0 x (fl_unfold x hx)
   have hcall := gen_Ints_w a_p0_1 c_p0_1 p0_1 a_p1_1 c_p1_1 p1_1 _ w5 (fl [[b5], [b3], M]) (MS.fold (P := []) hpk) (hs_p0_1.sub hsb) (hs_p1_1.sub hsb) hx
   refine x_call 36 #[] #[] [.slice a_p0_1 (p0_1).length c_p0_1, .slice a_p1_1 (p1_1).length c_p1_1] _ rfl rfl rfl rfl hcall ?_
   rintro v w8 ⟨rfl, he8⟩
   clear hcall hx
   refine inl1 ?_
   have hst := Stp.ext (ls := [[b5], [b3], M]) he8
   replace hs_p0_1 := hs_p0_1.step hst
   replace hs_p1_1 := hs_p1_1.step hst
   replace hb3 := he8.box hb3 nn
   replace hb5 := he8.box hb5 nn
   replace hms := hms.ev he8
   replace hev := hev.ext he8
   clear hpk hsb hsb0
   refine x_pure 2 [(16, .bool x7), (4, .bool x7)] _ _ _ (by kernel_rfl) ?_
   refine x_ek ?_
   refine c_norm [(4, .bool x7)] ⟨rfl, trivial⟩ (fun J => ?_)
   refine c_ret ?_
   refine r_ret (r_vals [.bool x7] ⟨rfl, trivial⟩ ?_)
   have hx := some_inj h
   subst hx
   have hmr : MS w8 [M] := hms.pick [some 2] _ rfl
   have hsu : ∀ x ∈ fl [M], x ∈ fl [[b5], [b3], M] := pick_sub [some 2] _ rfl
   exact ⟨rfl, hev⟩
 replace h := ite_f hb h
 refine x_pure 7 [(11, undef), (12, undef), (13, undef), (14, undef), (15, undef), (16, .bool false), (4, .bool false)] _ _ _ (by kernel_rfl) ?_
 refine x_ek ?_
 refine c_norm [(4, .bool false)] ⟨rfl, trivial⟩ (fun J => ?_)
 refine c_ret ?_
 refine r_ret (r_vals [.bool false] ⟨rfl, trivial⟩ ?_)
 have hx := some_inj h
 subst hx
 have hmr : MS w5 [M] := hms.pick [some 2] _ rfl
 have hsu : ∀ x ∈ fl [M], x ∈ fl [[b5], [b3], M] := pick_sub [some 2] _ rfl
 exact ⟨rfl, hev⟩
def gen_Proofs (p0_0_0 : Int) (p0_0_1 : List Int) (p0_1 : List Int) (p1_0_0 : Int) (p1_0_1 : List Int) (p1_1 : List Int) : Option Bool :=
((gen_Plans p0_0_0 p0_0_1 p1_0_0 p1_0_1).bind fun x9 =>
(if x9 = true then
((gen_Ints p0_1 p1_1).bind fun x11 =>
some x11)
else
some false))

theorem gen_Proofs_w (p0_0_0 : Int) (a_p0_0_1 : Option Addr) (c_p0_0_1 : Nat) (p0_0_1 : List Int) (a_p0_1 : Option Addr) (c_p0_1 : Nat) (p0_1 : List Int) (p1_0_0 : Int) (a_p1_0_1 : Option Addr) (c_p1_0_1 : Nat) (p1_0_1 : List Int) (a_p1_1 : Option Addr) (c_p1_1 : Nat) (p1_1 : List Int) (r : Bool) (w : World) (M : List Nat) (hms : MS w [M]) (hs_p0_0_1 : SlR (eInt .i64) w (fl [M]) a_p0_0_1 c_p0_0_1 p0_0_1) (hs_p0_1 : SlR (eInt .i64) w (fl [M]) a_p0_1 c_p0_1 p0_1) (hs_p1_0_1 : SlR (eInt .i64) w (fl [M]) a_p1_0_1 c_p1_0_1 p1_0_1) (hs_p1_1 : SlR (eInt .i64) w (fl [M]) a_p1_1 c_p1_1 p1_1) (h : gen_Proofs p0_0_0 p0_0_1 p0_1 p1_0_0 p1_0_1 p1_1 = some r) : CallVC Try.prog 12 [.agg #[Vi p0_0_0, .slice a_p0_0_1 (p0_0_1).length c_p0_0_1, .slice a_p0_1 (p0_1).length c_p0_1], .agg #[Vi p1_0_0, .slice a_p1_0_1 (p1_0_1).length c_p1_0_1, .slice a_p1_1 (p1_1).length c_p1_1]] w fun v w' => v = .bool r ∧ Ev [] w w' := by
 refine calls_vc hmx Try.func12 (by kernel_rfl) rfl (rs := [.tmp 4]) rfl (by kernel_rfl) (args := [.agg #[Vi p0_0_0, .slice a_p0_0_1 (p0_0_1).length c_p0_0_1, .slice a_p0_1 (p0_1).length c_p0_1], .agg #[Vi p1_0_0, .slice a_p1_0_1 (p1_0_1).length c_p1_0_1, .slice a_p1_1 (p1_1).length c_p1_1]]) rfl ?_
 have hev : Ev [] w w := Ev.refl _ _
 have hfr : FR w.heap.size [] := FR.nil _
 refine c_sp ?_
 refine x_box (xv := .agg #[Vi p0_0_0, .slice a_p0_0_1 (p0_0_1).length c_p0_0_1, .slice a_p0_1 (p0_1).length c_p0_1]) rfl rfl rfl (fun b5 w5 hq5 hb5 he5 hz5 => ?_)
 replace hb5 : w5.heap[b5]? = some (.cells #[Vi p0_0_0, .slice a_p0_0_1 (p0_0_1).length c_p0_0_1, .slice a_p0_1 (p0_1).length c_p0_1] 29 (0, 0)) := hb5
 refine inl1 ?_
 have hst := Stp.box (ls := [M]) he5 hq5
 replace hs_p0_0_1 := hs_p0_0_1.step hst
 replace hs_p0_1 := hs_p0_1.step hst
 replace hs_p1_0_1 := hs_p1_0_1.step hst
 replace hs_p1_1 := hs_p1_1.step hst
 replace hms := hms.box he5 hq5 hb5
 replace hfr := hfr.box hev.size hq5
 replace hev := hev.ext he5
 refine x_box (xv := .agg #[Vi p1_0_0, .slice a_p1_0_1 (p1_0_1).length c_p1_0_1, .slice a_p1_1 (p1_1).length c_p1_1]) rfl rfl rfl (fun b7 w7 hq7 hb7 he7 hz7 => ?_)
 replace hb7 : w7.heap[b7]? = some (.cells #[Vi p1_0_0, .slice a_p1_0_1 (p1_0_1).length c_p1_0_1, .slice a_p1_1 (p1_1).length c_p1_1] 29 (0, 0)) := hb7
 refine inl1 ?_
 have hst := Stp.box (ls := [[b5], M]) he7 hq7
 replace hs_p0_0_1 := hs_p0_0_1.step hst
 replace hs_p0_1 := hs_p0_1.step hst
 replace hs_p1_0_1 := hs_p1_0_1.step hst
 replace hs_p1_1 := hs_p1_1.step hst
 replace hb5 := he7.box hb5 nn
 replace hms := hms.box he7 hq7 hb7
 replace hfr := hfr.box hev.size hq7
 replace hev := hev.ext he7
 refine x_pure 1 [(4, .bool false)] _ _ _ (by kernel_rfl) ?_
 refine x_ek ?_
 refine c_sp ?_
 refine x_fieldAddr (xv := Vp b5 0) (Vp b5 0) rfl rfl rfl (reads_field tfld29_0 _ _) ?_
 refine x_load (xv := Vp b5 0) (.agg #[Vi p0_0_0, .slice a_p0_0_1 (p0_0_1).length c_p0_0_1]) rfl rfl rfl (reads_boxagg 0 [Vi p0_0_0, .slice a_p0_0_1 (p0_0_1).length c_p0_0_1] tagg27 hb5 nn rfl) ?_
 refine x_fieldAddr (xv := Vp b7 0) (Vp b7 0) rfl rfl rfl (reads_field tfld29_0 _ _) ?_
 refine x_load (xv := Vp b7 0) (.agg #[Vi p1_0_0, .slice a_p1_0_1 (p1_0_1).length c_p1_0_1]) rfl rfl rfl (reads_boxagg 0 [Vi p1_0_0, .slice a_p1_0_1 (p1_0_1).length c_p1_0_1] tagg27 hb7 nn rfl) ?_
 obtain ⟨x9, hx, h⟩ := bind_some h
 have hpk : MS w7 ([] ++ [[b7], [b5], M]) := hms.pick [some 0, some 1, some 2] _ rfl
 have hsb0 : ∀ x ∈ fl ([] ++ [[b7], [b5], M]), x ∈ fl [[b7], [b5], M] := pick_sub [some 0, some 1, some 2] _ rfl
 have hsb : ∀ x ∈ fl ([] ++ [(fl [[b7], [b5], M])]), x ∈ fl [[b7], [b5], M] := fun x hx => hsb0 x (fl_unfold x hx)
 have hcall := gen_Plans_w p0_0_0 a_p0_0_1 c_p0_0_1 p0_0_1 p1_0_0 a_p1_0_1 c_p1_0_1 p1_0_1 _ w7 (fl [[b7], [b5], M]) (MS.fold (P := []) hpk) (hs_p0_0_1.sub hsb) (hs_p1_0_1.sub hsb) hx
 refine x_call 35 #[] #[] [.agg #[Vi p0_0_0, .slice a_p0_0_1 (p0_0_1).length c_p0_0_1], .agg #[Vi p1_0_0, .slice a_p1_0_1 (p1_0_1).length c_p1_0_1]] _ rfl rfl rfl rfl hcall ?_
 rintro v w10 ⟨rfl, he10⟩
 clear hcall hx
 refine inl1 ?_
 have hst := Stp.ext (ls := [[b7], [b5], M]) he10
 replace hs_p0_0_1 := hs_p0_0_1.step hst
 replace hs_p0_1 := hs_p0_1.step hst
 replace hs_p1_0_1 := hs_p1_0_1.step hst
 replace hs_p1_1 := hs_p1_1.step hst
 replace hb5 := he10.box hb5 nn
 replace hb7 := he10.box hb7 nn
 replace hms := hms.ev he10
 replace hev := hev.ext he10
 clear hpk hsb hsb0
 refine x_pure 1 [(10, .bool x9)] _ _ _ (by kernel_rfl) ?_
 refine x_split 10 x9 rfl (fun hb => ?_) (fun hb => ?_)
 · replace h := ite_t hb h
   refine x_fieldAddr (xv := Vp b5 0) (Vp b5 2) rfl rfl rfl (reads_field tfld29_1 _ _) ?_
   refine x_load (xv := Vp b5 2) (.slice a_p0_1 (p0_1).length c_p0_1) rfl rfl rfl (reads_box tcell22 hb5 nn 2 _ rfl) ?_
   refine x_fieldAddr (xv := Vp b7 0) (Vp b7 2) rfl rfl rfl (reads_field tfld29_1 _ _) ?_
   refine x_load (xv := Vp b7 2) (.slice a_p1_1 (p1_1).length c_p1_1) rfl rfl rfl (reads_box tcell22 hb7 nn 2 _ rfl) ?_
   obtain ⟨x11, hx, h⟩ := bind_some h
   have hpk : MS w10 ([] ++ [[b7], [b5], M]) := hms.pick [some 0, some 1, some 2] _ rfl
   have hsb0 : ∀ x ∈ fl ([] ++ [[b7], [b5], M]), x ∈ fl [[b7], [b5], M] := pick_sub [some 0, some 1, some 2] _ rfl
   have hsb : ∀ x ∈ fl ([] ++ [(fl [[b7], [b5], M])]), x ∈ fl [[b7], [b5], M] := fun x hx => hsb0 x (fl_unfold x hx)
   have hcall := gen_Ints_w a_p0_1 c_p0_1 p0_1 a_p1_1 c_p1_1 p1_1 _ w10 (fl [[b7], [b5], M]) (MS.fold (P := []) hpk) (hs_p0_1.sub hsb) (hs_p1_1.sub hsb) hx
   refine x_call 36 #[] #[] [.slice a_p0_1 (p0_1).length c_p0_1, .slice a_p1_1 (p1_1).length c_p1_1] _ rfl rfl rfl rfl hcall ?_
   rintro v w12 ⟨rfl, he12⟩
   clear hcall hx
   refine inl1 ?_
   have hst := Stp.ext (ls := [[b7], [b5], M]) he12
   replace hs_p0_0_1 := hs_p0_0_1.step hst
   replace hs_p0_1 := hs_p0_1.step hst
   replace hs_p1_0_1 := hs_p1_0_1.step hst
   replace hs_p1_1 := hs_p1_1.step hst
   replace hb5 := he12.box hb5 nn
   replace hb7 := he12.box hb7 nn
   replace hms := hms.ev he12
   replace hev := hev.ext he12
   clear hpk hsb hsb0
   refine x_pure 2 [(16, .bool x11), (4, .bool x11)] _ _ _ (by kernel_rfl) ?_
   refine x_ek ?_
   refine c_norm [(4, .bool x11)] ⟨rfl, trivial⟩ (fun J => ?_)
   refine c_ret ?_
   refine r_ret (r_vals [.bool x11] ⟨rfl, trivial⟩ ?_)
   have hx := some_inj h
   subst hx
   have hmr : MS w12 [M] := hms.pick [some 2] _ rfl
   have hsu : ∀ x ∈ fl [M], x ∈ fl [[b7], [b5], M] := pick_sub [some 2] _ rfl
   exact ⟨rfl, hev⟩
 replace h := ite_f hb h
 refine x_pure 7 [(11, undef), (12, undef), (13, undef), (14, undef), (15, undef), (16, .bool false), (4, .bool false)] _ _ _ (by kernel_rfl) ?_
 refine x_ek ?_
 refine c_norm [(4, .bool false)] ⟨rfl, trivial⟩ (fun J => ?_)
 refine c_ret ?_
 refine r_ret (r_vals [.bool false] ⟨rfl, trivial⟩ ?_)
 have hx := some_inj h
 subst hx
 have hmr : MS w10 [M] := hms.pick [some 2] _ rfl
 have hsu : ∀ x ∈ fl [M], x ∈ fl [[b7], [b5], M] := pick_sub [some 2] _ rfl
 exact ⟨rfl, hev⟩
def gen_Maker_SpoilJob_J13 (p0_0 : List Int) (p1_0 : List (Int × Int × Int × Int)) (p1_1 : Int) (e2_j13_1 : Int) (t19__s19_j13 : Bool) : Option (((List (Int × Int × Int × Int)) × Int) × Int) :=
(if t19__s19_j13 = true then
((gen_Maker_Pick p0_0 e2_j13_1 ([(-1), 13, 12, 0])).bind fun x18 =>
some (((([] : List (Int × Int × Int × Int)) ++ p1_0), x18.1), x18.2))
else
((gen_Maker_Next p0_0 e2_j13_1 (((([] : List (Int × Int × Int × Int)) ++ p1_0)).length : Int)).bind fun x22 =>
((idx (([] : List (Int × Int × Int × Int)) ++ p1_0) x22.1).bind fun x24 =>
((gen_Maker_Next p0_0 x22.2 4).bind fun x26 =>
(if (x26.1 == 0) = true then
((gen_Maker_Pick p0_0 x26.2 ([(-1), 15, 16])).bind fun x30 =>
some ((((([] : List (Int × Int × Int × Int)) ++ p1_0).set (Int.toNat x22.1) (x30.1, x24.2.1, x24.2.2.1, x24.2.2.2)), p1_1), x30.2))
else
(if (x26.1 == 1) = true then
((gen_Maker_Pick p0_0 x26.2 ([(-1), 31, 32])).bind fun x36 =>
some ((((([] : List (Int × Int × Int × Int)) ++ p1_0).set (Int.toNat x22.1) (x24.1, x36.1, x24.2.2.1, x24.2.2.2)), p1_1), x36.2))
else
(if (x26.1 == 2) = true then
((gen_Maker_Pick p0_0 x26.2 ([(-1), 0, 5, 12, 13])).bind fun x42 =>
some ((((([] : List (Int × Int × Int × Int)) ++ p1_0).set (Int.toNat x22.1) (x24.1, x24.2.1, x42.1, x24.2.2.2)), p1_1), x42.2))
else
((gen_Maker_Pick p0_0 x26.2 ([0, 1, 400, 401])).bind fun x48 =>
some ((((([] : List (Int × Int × Int × Int)) ++ p1_0).set (Int.toNat x22.1) (x24.1, x24.2.1, x24.2.2.1, x48.1)), p1_1), x48.2)))))))))

def gen_Maker_SpoilJob (p0_0 : List Int) (p0_1 : Int) (p1_0 : List (Int × Int × Int × Int)) (p1_1 : Int) : Option (((List (Int × Int × Int × Int)) × Int) × Int) :=
(if ([] : List (Int × Int × Int × Int)).length + p1_0.length ≤ 4294967296 then
(if ((((([] : List (Int × Int × Int × Int)) ++ p1_0)).length : Int) == 0) = true then
gen_Maker_SpoilJob_J13 p0_0 p1_0 p1_1 p0_1 true
else
((gen_Maker_Next p0_0 p0_1 8).bind fun x14 =>
gen_Maker_SpoilJob_J13 p0_0 p1_0 p1_1 x14.2 (x14.1 == 0)))
else none)

theorem gen_Maker_SpoilJob_w (b_p0 : Nat) (a_p0_0 : Option Addr) (c_p0_0 : Nat) (p0_0 : List Int) (p0_1 : Int) (a_p1_0 : Option Addr) (c_p1_0 : Nat) (p1_0 : List (Int × Int × Int × Int)) (p1_1 : Int) (r : ((List (Int × Int × Int × Int)) × Int) × Int) (w : World) (M : List Nat) (hms : MS w [[b_p0], M]) (hs_p0_0 : SlR (eInt .i64) w (fl [[b_p0], M]) a_p0_0 c_p0_0 p0_0) (hb_p0 : w.heap[b_p0]? = some (.cells #[.slice a_p0_0 (p0_0).length c_p0_0, Vi p0_1] 65 (0, 0))) (hs_p1_0 : SlR (eIt4) w (fl [[b_p0], M]) a_p1_0 c_p1_0 p1_0) (h : gen_Maker_SpoilJob p0_0 p0_1 p1_0 p1_1 = some r) : CallVC Try.prog 16 [Vp b_p0 0, .agg #[.slice a_p1_0 (p1_0).length c_p1_0, Vi p1_1]] w fun v w' => ∃ (a0' : Option Addr), ∃ (c0' : Nat), v = .agg #[.slice a0' (r.1.1).length c0', Vi r.1.2] ∧ Ev [b_p0] w w' ∧ w'.heap[b_p0]? = some (.cells #[.slice a_p0_0 (p0_0).length c_p0_0, Vi r.2] 65 (0, 0)) ∧ MS w' [blk a0', [b_p0], M] ∧ FR w.heap.size [blk a0'] ∧ OwnS (eIt4) 79 w' (fl [blk a0', [b_p0], M]) a0' c0' r.1.1 := by
 refine calls_vc hmx Try.func16 (by kernel_rfl) rfl (rs := [.cell 4 25]) rfl (by kernel_rfl) (args := [Vp b_p0 0, .agg #[.slice a_p1_0 (p1_0).length c_p1_0, Vi p1_1]]) rfl ?_
 have hev : Ev [b_p0] w w := Ev.refl _ _
 have hfr : FR w.heap.size [] := FR.nil _
 refine c_sp ?_
 refine x_box (xv := .agg #[.slice a_p1_0 (p1_0).length c_p1_0, Vi p1_1]) rfl rfl rfl (fun b4 w4 hq4 hb4 he4 hz4 => ?_)
 replace hb4 : w4.heap[b4]? = some (.cells #[.slice a_p1_0 (p1_0).length c_p1_0, Vi p1_1] 25 (0, 0)) := hb4
 refine inl1 ?_
 have hst := Stp.box (ls := [[b_p0], M]) he4 hq4
 replace hs_p0_0 := hs_p0_0.step hst
 replace hb_p0 := he4.box hb_p0 nn
 replace hs_p1_0 := hs_p1_0.step hst
 replace hms := hms.box he4 hq4 hb4
 replace hfr := hfr.box hev.size hq4
 replace hev := hev.ext he4
 refine x_alloc (z := .agg #[.slice none 0 0, Vi 0]) rfl rfl (by kernel_rfl) (fun b6 w6 hq6 hb6 he6 hz6 => ?_)
 replace hb6 : w6.heap[b6]? = some (.cells #[.slice none 0 0, Vi 0] 25 (0, 0)) := hb6
 refine inl1 ?_
 have hst := Stp.box (ls := [[b4], [b_p0], M]) he6 hq6
 replace hs_p0_0 := hs_p0_0.step hst
 replace hb_p0 := he6.box hb_p0 nn
 replace hs_p1_0 := hs_p1_0.step hst
 replace hb4 := he6.box hb4 nn
 replace hms := hms.box he6 hq6 hb6
 replace hfr := hfr.box hev.size hq6
 replace hev := hev.ext he6
 refine x_ek ?_
 refine c_sp ?_
 refine x_buildSlice (vs := []) #[] 79 rfl rfl rfl (by kernel_rfl) (fun b8 w8 hq8 hb8 he8 hz8 => ?_)
 refine inl1 ?_
 obtain ⟨a8, ea8⟩ : ∃ a, a = some (⟨b8, 0, none⟩ : Addr) := ⟨_, rfl⟩
 have hw8 : ∀ M, OwnS (eIt4) 79 w8 M a8 0 ([] : List (Int × Int × Int × Int)) := fun M => ea8 ▸ own_of_box hb8 (by decide) rfl rfl (cells_at (cs := []) CellsOf.nil)
 have hn8 : ∀ b ∈ blk a8, w6.heap.size ≤ b ∧ b < w8.heap.size := by subst ea8; intro b hb; simp only [blk, List.mem_singleton] at hb; subst hb; exact ⟨Nat.le_of_eq hq8.symm, lt_of_heap hb8⟩
 clear hb8
 have hst := Stp.push (ls := [[b6], [b4], [b_p0], M]) (l := blk a8) he8 (fun _ h => by cases h) (fun b hb => (hn8 b hb).1)
 replace hs_p0_0 := hs_p0_0.step hst
 replace hb_p0 := he8.box hb_p0 nn
 replace hs_p1_0 := hs_p1_0.step hst
 replace hb4 := he8.box hb4 nn
 replace hb6 := he8.box hb6 nn
 replace hms := hms.push he8 hn8
 replace hfr := hfr.push (fun b hb => Nat.le_trans hev.size (hn8 b hb).1)
 replace hev := hev.ext he8
 have ho8 := hw8 (fl [blk a8, [b6], [b4], [b_p0], M])
 clear hw8
 rw [← ea8]
 refine x_fieldAddr (xv := Vp b4 0) (Vp b4 0) rfl rfl rfl (reads_field tfld25_0 _ _) ?_
 refine x_load (xv := Vp b4 0) (.slice a_p1_0 (p1_0).length c_p1_0) rfl rfl rfl (reads_box tcell23 hb4 nn 0 _ rfl) ?_
 have hg := guard_l h
 replace h := guard_r h
 obtain ⟨a10, c10, w10, hr10, he10, hn10, hm10, hw10⟩ := own_appendN tel23 23 ho8 (mem_flat 0 rfl) hs_p1_0 hg
 refine x_builtin (vs := [.slice a8 (([] : List (Int × Int × Int × Int))).length 0, .slice a_p1_0 (p1_0).length c_p1_0]) _ w10 rfl rfl rfl rfl (run_value _ _ _ _ hr10) ?_
 refine inl1 ?_
 have hst : Stp (fl [blk a8, [b6], [b4], [b_p0], M]) w8 (fl [blk a10, [b6], [b4], [b_p0], M]) w10 := Stp.upd 0 he10 rfl (fun b hb => (hn10 b hb).1)
 replace hs_p0_0 := hs_p0_0.step hst
 replace hb_p0 := he10.box hb_p0 (hms.apart 3 0 rfl rfl rfl _ mem1)
 replace hs_p1_0 := hs_p1_0.step hst
 replace hb4 := he10.box hb4 (hms.apart 2 0 rfl rfl rfl _ mem1)
 replace hb6 := he10.box hb6 (hms.apart 1 0 rfl rfl rfl _ mem1)
 replace hms : MS w10 [blk a10, [b6], [b4], [b_p0], M] := hms.upd 0 he10 rfl hn10
 have hfr2 : FR w.heap.size [blk a10, [b6], [b4]] := hfr.upd 0 rfl hev.size (fun b hb => (hn10 b hb).1)
 replace hev := hev.then he10 (fun b hb => .inr (hfr.at 0 rfl b hb))
 replace hfr := hfr2
 clear hfr2
 replace ho8 := hw10 (fl [blk a10, [b6], [b4], [b_p0], M]) hst.new
 clear hw10
 refine x_fieldAddr (xv := Vp b4 0) (Vp b4 0) rfl rfl rfl (reads_field tfld25_0 _ _) ?_
 obtain ⟨w11, hr11, hb11, he11⟩ := store_box 0 (.slice a10 ((([] : List (Int × Int × Int × Int)) ++ p1_0)).length c10) #[.slice a10 ((([] : List (Int × Int × Int × Int)) ++ p1_0)).length c10, Vi p1_1] tcell23 hb4 rfl rfl rfl
 refine x_store w11 (xv := Vp b4 0) (yv := .slice a10 ((([] : List (Int × Int × Int × Int)) ++ p1_0)).length c10) rfl rfl rfl rfl hr11 ?_
 refine inl1 ?_
 have hst := Stp.ev' (ls := [blk a10, [b6], [b4], [b_p0], M]) he11 (mem_flat 2 rfl)
 replace hs_p0_0 := hs_p0_0.step hst
 replace hb_p0 := he11.box hb_p0 (hms.apart 3 2 rfl rfl rfl _ mem1)
 replace hs_p1_0 := hs_p1_0.step hst
 replace hb6 := he11.box hb6 (hms.apart 1 2 rfl rfl rfl _ mem1)
 replace ho8 := ho8.step hst he11 (hms.apart 0 2 rfl rfl rfl)
 replace hms := hms.ev he11
 replace hev := hev.then he11 (fun b hb => .inr (hfr.at 2 rfl b hb))
 replace hb4 := hb11
 refine x_ek ?_
 refine c_seq ?_
 refine c_join (σ := Int × Bool) (fun s => match s with | (e2_j13_1, t19__s19_j13) => [(0, Vp b_p0 0), (3, Vp b4 0), (4, Vp b6 0), (19, .bool t19__s19_j13)]) (fun s w' => match s with | (e2_j13_1, t19__s19_j13) => gen_Maker_SpoilJob_J13 p0_0 p1_0 p1_1 e2_j13_1 t19__s19_j13 = some r ∧ Ev [b_p0] w w' ∧ MS w' [blk a10, [b4], [b6], [b_p0], M] ∧ FR w.heap.size [blk a10, [b4], [b6]] ∧ SlR (eInt .i64) w' (fl [blk a10, [b4], [b6], [b_p0], M]) a_p0_0 c_p0_0 p0_0 ∧ w'.heap[b_p0]? = some (.cells #[.slice a_p0_0 (p0_0).length c_p0_0, Vi e2_j13_1] 65 (0, 0)) ∧ OwnS (eIt4) 79 w' (fl [blk a10, [b4], [b6], [b_p0], M]) a10 c10 (([] : List (Int × Int × Int × Int)) ++ p1_0) ∧ w'.heap[b4]? = some (.cells #[.slice a10 ((([] : List (Int × Int × Int × Int)) ++ p1_0)).length c10, Vi p1_1] 25 (0, 0)) ∧ w'.heap[b6]? = some (.cells #[.slice none 0 0, Vi 0] 25 (0, 0))) ?_ ?_
 · refine c_plain ?_
   refine x_fieldAddr (xv := Vp b4 0) (Vp b4 0) rfl rfl rfl (reads_field tfld25_0 _ _) ?_
   refine x_load (xv := Vp b4 0) (.slice a10 ((([] : List (Int × Int × Int × Int)) ++ p1_0)).length c10) rfl rfl rfl (reads_box tcell23 hb4 nn 0 _ rfl) ?_
   refine x_len (vs := [.slice a10 ((([] : List (Int × Int × Int × Int)) ++ p1_0)).length c10]) (Vi (((([] : List (Int × Int × Int × Int)) ++ p1_0)).length : Int)) rfl rfl rfl (reads_len tsl23 _ _ _ _ _) ?_
   refine x_pure 2 [(14, .bool ((((([] : List (Int × Int × Int × Int)) ++ p1_0)).length : Int) == 0)), (15, .bool ((((([] : List (Int × Int × Int × Int)) ++ p1_0)).length : Int) == 0))] _ _ _ (by kernel_rfl) ?_
   refine x_split 15 ((((([] : List (Int × Int × Int × Int)) ++ p1_0)).length : Int) == 0) rfl (fun hb => ?_) (fun hb => ?_)
   · replace h := ite_t hb h
     refine x_pure 4 [(16, undef), (17, undef), (18, undef), (19, .bool true)] _ _ _ (by kernel_rfl) ?_
     refine x_end rfl ?_
     have hpk : MS w11 [blk a10, [b4], [b6], [b_p0], M] := hms.pick [some 0, some 2, some 1, some 3, some 4] _ rfl
     have hsu : ∀ x ∈ fl [blk a10, [b4], [b6], [b_p0], M], x ∈ fl [blk a10, [b6], [b4], [b_p0], M] := pick_sub [some 0, some 2, some 1, some 3, some 4] _ rfl
     replace hs_p0_0 := hs_p0_0.sub hsu
     replace ho8 := ho8.sub hsu
     replace hms := hpk
     replace hfr : FR w.heap.size [blk a10, [b4], [b6]] := hfr.pick [some 0, some 2, some 1] _ rfl
     clear hpk hsu
     exact k_then ⟨(p0_1, true), ⟨rfl, rfl, rfl, rfl, trivial⟩, h, hev, hms, hfr, hs_p0_0, hb_p0, ho8, hb4, hb6⟩
   replace h := ite_f hb h
   refine x_pure 1 [(16, Vp b_p0 0)] _ _ _ (by kernel_rfl) ?_
   obtain ⟨x14, hx, h⟩ := bind_some h
   have hpk : MS w11 ([[b_p0]] ++ [blk a10, [b6], [b4], M]) := hms.pick [some 3, some 0, some 1, some 2, some 4] _ rfl
   have hsb0 : ∀ x ∈ fl ([[b_p0]] ++ [blk a10, [b6], [b4], M]), x ∈ fl [blk a10, [b6], [b4], [b_p0], M] := pick_sub [some 3, some 0, some 1, some 2, some 4] _ rfl
   have hsb : ∀ x ∈ fl ([[b_p0]] ++ [(fl [blk a10, [b6], [b4], M])]), x ∈ fl [blk a10, [b6], [b4], [b_p0], M] := fun x hx => hsb0 x (fl_unfold x hx)
   have hcall := gen_Maker_Next_w b_p0 a_p0_0 c_p0_0 p0_0 p0_1 8 _ w11 (fl [blk a10, [b6], [b4], M]) (hpk.fold (P := [[b_p0]])) (hs_p0_0.sub hsb) hb_p0 hx
   refine x_call 37 #[] #[] [Vp b_p0 0, Vi 8] _ rfl rfl rfl rfl hcall ?_
   rintro v w15 ⟨rfl, he15, hp15_0⟩
   clear hcall hx
   refine inl1 ?_
   have hpk2 : MS w11 ([[b_p0]] ++ [blk a10, [b6], [b4], M]) := hms.pick [some 3, some 0, some 1, some 2, some 4] _ rfl
   have hsb2 : ∀ x ∈ fl ([[b_p0]] ++ [blk a10, [b6], [b4], M]), x ∈ fl [blk a10, [b6], [b4], [b_p0], M] := pick_sub [some 3, some 0, some 1, some 2, some 4] _ rfl
   have hst0 := Stp.call (LS := [blk a10, [b6], [b4], [b_p0], M]) (res := []) (par := [[b_p0]]) (R := [blk a10, [b6], [b4], M]) he15 (fun b hb => hsb2 b (fl_left' (P := [[b_p0]]) b hb)) (FR.nil _) (NP.init _ _) (fun x hx => hsb2 x (fl_right' (P := [[b_p0]]) x hx))
   have hsn : ∀ x ∈ fl [blk a10, [b6], [b4], [b_p0], M], x ∈ fl ([] ++ ([[b_p0]] ++ [blk a10, [b6], [b4], M])) := pick_sub [some 1, some 2, some 3, some 0, some 4] _ rfl
   have hst := hst0.res hsn
   replace hs_p0_0 := hs_p0_0.step hst
   replace hb4 := he15.box hb4 ((MS.outs (P := [[b_p0]]) hpk2 2 rfl) _ mem1)
   replace hb6 := he15.box hb6 ((MS.outs (P := [[b_p0]]) hpk2 1 rfl) _ mem1)
   replace ho8 := ho8.step hst he15 (MS.outs (P := [[b_p0]]) hpk2 0 rfl)
   replace hms := hms.ev he15
   replace hev := hev.then he15 (fun b hb => .inl (by simpa using hb))
   replace hb_p0 := hp15_0
   clear hpk hsb hsb0 hpk2 hsb2 hst0 hsn hst
   refine x_pure 2 [(18, .bool (x14.1 == 0)), (19, .bool (x14.1 == 0))] _ _ _ (by kernel_rfl) ?_
   refine x_end rfl ?_
   have hpk : MS w15 [blk a10, [b4], [b6], [b_p0], M] := hms.pick [some 0, some 2, some 1, some 3, some 4] _ rfl
   have hsu : ∀ x ∈ fl [blk a10, [b4], [b6], [b_p0], M], x ∈ fl [blk a10, [b6], [b4], [b_p0], M] := pick_sub [some 0, some 2, some 1, some 3, some 4] _ rfl
   replace hs_p0_0 := hs_p0_0.sub hsu
   replace ho8 := ho8.sub hsu
   replace hms := hpk
   replace hfr : FR w.heap.size [blk a10, [b4], [b6]] := hfr.pick [some 0, some 2, some 1] _ rfl
   clear hpk hsu
   exact k_then ⟨(x14.2, x14.1 == 0), ⟨rfl, rfl, rfl, rfl, trivial⟩, h, hev, hms, hfr, hs_p0_0, hb_p0, ho8, hb4, hb6⟩
 rintro ⟨e2_j13_1, t19__s19_j13⟩ J wj13 ⟨h, hev, hms, hfr, hs_p0_0, hb_p0, ho8, hb4, hb6⟩
 refine c_cond t19__s19_j13 rfl (fun hb => ?_) (fun hb => ?_)
 · replace h := ite_t hb h
   refine c_sp ?_
   refine x_pure 1 [(20, Vp b_p0 0)] _ _ _ (by kernel_rfl) ?_
   refine x_buildSlice (vs := [(0, Vi (-1)), (1, Vi 13), (2, Vi 12), (3, Vi 0)]) #[Vi (-1), Vi 13, Vi 12, Vi 0] 3 rfl rfl rfl (by kernel_rfl) (fun b16 w16 hq16 hb16 he16 hz16 => ?_)
   refine inl1 ?_
   have hms0 := hms
   have hst := Stp.ext (ls := [blk a10, [b4], [b6], [b_p0], M]) he16
   replace hb_p0 := he16.box hb_p0 nn
   replace hs_p0_0 := hs_p0_0.step hst
   replace hb4 := he16.box hb4 nn
   replace ho8 := ho8.step hst he16 nn2
   replace hb6 := he16.box hb6 nn
   replace hms := hms.ev he16
   replace hev := hev.ext he16
   have hs16 : SlR (eInt .i64) w16 (fl [blk a10, [b4], [b6], [b_p0], M]) (Ad b16 0) 4 ([(-1), 13, 12, 0]) := ro_of_box hms0 hq16 hb16 rfl rfl (cells_at (cs := [Vi (-1), Vi 13, Vi 12, Vi 0]) (CellsOf.cons (c := [Vi (-1)]) rfl (CellsOf.cons (c := [Vi 13]) rfl (CellsOf.cons (c := [Vi 12]) rfl (CellsOf.cons (c := [Vi 0]) rfl CellsOf.nil)))))
   clear hb16 hms0
   obtain ⟨x18, hx, h⟩ := bind_some h
   have hpk : MS w16 ([[b_p0]] ++ [blk a10, [b4], [b6], M]) := hms.pick [some 3, some 0, some 1, some 2, some 4] _ rfl
   have hsb0 : ∀ x ∈ fl ([[b_p0]] ++ [blk a10, [b4], [b6], M]), x ∈ fl [blk a10, [b4], [b6], [b_p0], M] := pick_sub [some 3, some 0, some 1, some 2, some 4] _ rfl
   have hsb : ∀ x ∈ fl ([[b_p0]] ++ [(fl [blk a10, [b4], [b6], M])]), x ∈ fl [blk a10, [b4], [b6], [b_p0], M] := fun x hx => hsb0 x (fl_unfold x hx)
   have hcall := gen_Maker_Pick_w b_p0 a_p0_0 c_p0_0 p0_0 e2_j13_1 (Ad b16 0) 4 ([(-1), 13, 12, 0]) _ w16 (fl [blk a10, [b4], [b6], M]) (hpk.fold (P := [[b_p0]])) (hs_p0_0.sub hsb) hb_p0 (hs16.sub hsb) hx
   refine x_call 31 #[] #[] [Vp b_p0 0, .slice (Ad b16 0) ([(-1), 13, 12, 0]).length 4] _ rfl rfl rfl rfl hcall ?_
   rintro v w19 ⟨rfl, he19, hp19_0⟩
   clear hcall hx
   refine inl1 ?_
   have hpk2 : MS w16 ([[b_p0]] ++ [blk a10, [b4], [b6], M]) := hms.pick [some 3, some 0, some 1, some 2, some 4] _ rfl
   have hsb2 : ∀ x ∈ fl ([[b_p0]] ++ [blk a10, [b4], [b6], M]), x ∈ fl [blk a10, [b4], [b6], [b_p0], M] := pick_sub [some 3, some 0, some 1, some 2, some 4] _ rfl
   have hst0 := Stp.call (LS := [blk a10, [b4], [b6], [b_p0], M]) (res := []) (par := [[b_p0]]) (R := [blk a10, [b4], [b6], M]) he19 (fun b hb => hsb2 b (fl_left' (P := [[b_p0]]) b hb)) (FR.nil _) (NP.init _ _) (fun x hx => hsb2 x (fl_right' (P := [[b_p0]]) x hx))
   have hsn : ∀ x ∈ fl [blk a10, [b4], [b6], [b_p0], M], x ∈ fl ([] ++ ([[b_p0]] ++ [blk a10, [b4], [b6], M])) := pick_sub [some 1, some 2, some 3, some 0, some 4] _ rfl
   have hst := hst0.res hsn
   replace hs_p0_0 := hs_p0_0.step hst
   replace hb4 := he19.box hb4 ((MS.outs (P := [[b_p0]]) hpk2 1 rfl) _ mem1)
   replace ho8 := ho8.step hst he19 (MS.outs (P := [[b_p0]]) hpk2 0 rfl)
   replace hb6 := he19.box hb6 ((MS.outs (P := [[b_p0]]) hpk2 2 rfl) _ mem1)
   replace hs16 := hs16.step hst
   replace hms := hms.ev he19
   replace hev := hev.then he19 (fun b hb => .inl (by simpa using hb))
   replace hb_p0 := hp19_0
   clear hpk hsb hsb0 hpk2 hsb2 hst0 hsn hst
   refine x_fieldAddr (xv := Vp b4 0) (Vp b4 1) rfl rfl rfl (reads_field tfld25_1 _ _) ?_
   obtain ⟨w20, hr20, hb20, he20⟩ := store_box 1 (Vi x18.1) #[.slice a10 ((([] : List (Int × Int × Int × Int)) ++ p1_0)).length c10, Vi x18.1] tcell3 hb4 rfl rfl rfl
   refine x_store w20 (xv := Vp b4 1) (yv := Vi x18.1) rfl rfl rfl rfl hr20 ?_
   refine inl1 ?_
   have hst := Stp.ev' (ls := [blk a10, [b4], [b6], [b_p0], M]) he20 (mem_flat 1 rfl)
   replace hb_p0 := he20.box hb_p0 (hms.apart 3 1 rfl rfl rfl _ mem1)
   replace hs_p0_0 := hs_p0_0.step hst
   replace ho8 := ho8.step hst he20 (hms.apart 0 1 rfl rfl rfl)
   replace hb6 := he20.box hb6 (hms.apart 2 1 rfl rfl rfl _ mem1)
   replace hs16 := hs16.step hst
   replace hms := hms.ev he20
   replace hev := hev.then he20 (fun b hb => .inr (hfr.at 1 rfl b hb))
   replace hb4 := hb20
   refine x_ek ?_
   refine c_norm [(3, Vp b4 0), (4, Vp b6 0)] ⟨rfl, rfl, trivial⟩ (fun J => ?_)
   refine c_sp ?_
   refine x_load (xv := Vp b4 0) (.agg #[.slice a10 ((([] : List (Int × Int × Int × Int)) ++ p1_0)).length c10, Vi x18.1]) rfl rfl rfl (reads_boxagg 0 [.slice a10 ((([] : List (Int × Int × Int × Int)) ++ p1_0)).length c10, Vi x18.1] tagg25 hb4 nn rfl) ?_
   obtain ⟨w21, hr21, hb21, he21⟩ := store_boxagg 0 [.slice a10 ((([] : List (Int × Int × Int × Int)) ++ p1_0)).length c10, Vi x18.1] #[.slice a10 ((([] : List (Int × Int × Int × Int)) ++ p1_0)).length c10, Vi x18.1] tagg25 hb6 rfl rfl rfl
   refine x_store w21 (xv := Vp b6 0) (yv := .agg #[.slice a10 ((([] : List (Int × Int × Int × Int)) ++ p1_0)).length c10, Vi x18.1]) rfl rfl rfl rfl hr21 ?_
   refine inl1 ?_
   have hst := Stp.ev' (ls := [blk a10, [b4], [b6], [b_p0], M]) he21 (mem_flat 2 rfl)
   replace hb_p0 := he21.box hb_p0 (hms.apart 3 2 rfl rfl rfl _ mem1)
   replace hs_p0_0 := hs_p0_0.step hst
   replace hb4 := he21.box hb4 (hms.apart 1 2 rfl rfl rfl _ mem1)
   replace ho8 := ho8.step hst he21 (hms.apart 0 2 rfl rfl rfl)
   replace hms := hms.ev he21
   replace hev := hev.then he21 (fun b hb => .inr (hfr.at 2 rfl b hb))
   replace hb6 := hb21
   refine x_ek ?_
   refine c_ret ?_
   refine k_then_ret ?_
   refine r_ret (r_vals [.agg #[.slice a10 ((([] : List (Int × Int × Int × Int)) ++ p1_0)).length c10, Vi x18.1]] ⟨⟨_, rfl, loadVar_of_reads (reads_boxagg (Mo := []) 0 [.slice a10 ((([] : List (Int × Int × Int × Int)) ++ p1_0)).length c10, Vi x18.1] tagg25 hb6 nn rfl)⟩, trivial⟩ ?_)
   have hx := some_inj h
   subst hx
   have hmr : MS w21 [blk a10, [b_p0], M] := hms.pick [some 0, some 3, some 4] _ rfl
   have hsu : ∀ x ∈ fl [blk a10, [b_p0], M], x ∈ fl [blk a10, [b4], [b6], [b_p0], M] := pick_sub [some 0, some 3, some 4] _ rfl
   have hfe : FR w.heap.size [blk a10] := hfr.pick [some 0] _ rfl
   exact ⟨a10, c10, rfl, hev, hb_p0, hmr, hfe, ho8.sub hsu⟩
 replace h := ite_f hb h
 refine c_skip ?_
 refine k_then ?_
 refine c_norm [(0, Vp b_p0 0), (3, Vp b4 0), (4, Vp b6 0)] ⟨rfl, rfl, rfl, trivial⟩ (fun J => ?_)
 refine c_seq ?_
 refine c_drawn [b_p0] [(0, false), (1, false), (2, true), (3, false), (4, true), (5, true), (6, false), (7, true), (8, true)] _ (by kernel_rfl) rfl ?_
 have hst := Stp.ext (ls := [blk a10, [b4], [b6], [b_p0], M]) (Ev.drew wj13)
 replace hb_p0 := (Ev.drew wj13).box hb_p0 nn
 replace hs_p0_0 := hs_p0_0.step hst
 replace hb4 := (Ev.drew wj13).box hb4 nn
 replace ho8 := ho8.step hst (Ev.drew wj13) nn2
 replace hb6 := (Ev.drew wj13).box hb6 nn
 replace hms := hms.ev (Ev.drew wj13)
 replace hev := hev.ext (Ev.drew wj13)
 refine x_fieldAddr (xv := Vp b4 0) (Vp b4 0) rfl rfl rfl (reads_field tfld25_0 _ _) ?_
 refine x_load (xv := Vp b4 0) (.slice a10 ((([] : List (Int × Int × Int × Int)) ++ p1_0)).length c10) rfl rfl rfl (reads_box tcell23 hb4 ((hms.apart 1 3 rfl rfl rfl) _ mem1) 0 _ rfl) ?_
 refine x_pure 1 [(27, Vp b_p0 0)] _ _ _ (by kernel_rfl) ?_
 refine x_fieldAddr (xv := Vp b4 0) (Vp b4 0) rfl rfl rfl (reads_field tfld25_0 _ _) ?_
 refine x_load (xv := Vp b4 0) (.slice a10 ((([] : List (Int × Int × Int × Int)) ++ p1_0)).length c10) rfl rfl rfl (reads_box tcell23 hb4 nn 0 _ rfl) ?_
 refine x_len (vs := [.slice a10 ((([] : List (Int × Int × Int × Int)) ++ p1_0)).length c10]) (Vi (((([] : List (Int × Int × Int × Int)) ++ p1_0)).length : Int)) rfl rfl rfl (reads_len tsl23 _ _ _ _ _) ?_
 obtain ⟨x22, hx, h⟩ := bind_some h
 have hpk : MS (wj13).drew ([[b_p0]] ++ [blk a10, [b4], [b6], M]) := hms.pick [some 3, some 0, some 1, some 2, some 4] _ rfl
 have hsb0 : ∀ x ∈ fl ([[b_p0]] ++ [blk a10, [b4], [b6], M]), x ∈ fl [blk a10, [b4], [b6], [b_p0], M] := pick_sub [some 3, some 0, some 1, some 2, some 4] _ rfl
 have hsb : ∀ x ∈ fl ([[b_p0]] ++ [(fl [blk a10, [b4], [b6], M])]), x ∈ fl [blk a10, [b4], [b6], [b_p0], M] := fun x hx => hsb0 x (fl_unfold x hx)
 have hcall := gen_Maker_Next_w b_p0 a_p0_0 c_p0_0 p0_0 e2_j13_1 (((([] : List (Int × Int × Int × Int)) ++ p1_0)).length : Int) _ (wj13).drew (fl [blk a10, [b4], [b6], M]) (hpk.fold (P := [[b_p0]])) (hs_p0_0.sub hsb) hb_p0 hx
 refine x_call 37 #[] #[] [Vp b_p0 0, Vi (((([] : List (Int × Int × Int × Int)) ++ p1_0)).length : Int)] _ rfl rfl rfl rfl hcall ?_
 rintro v w23 ⟨rfl, he23, hp23_0⟩
 clear hcall hx
 refine ⟨.inr he23, ?_⟩
 have hpk2 : MS (wj13).drew ([[b_p0]] ++ [blk a10, [b4], [b6], M]) := hms.pick [some 3, some 0, some 1, some 2, some 4] _ rfl
 have hsb2 : ∀ x ∈ fl ([[b_p0]] ++ [blk a10, [b4], [b6], M]), x ∈ fl [blk a10, [b4], [b6], [b_p0], M] := pick_sub [some 3, some 0, some 1, some 2, some 4] _ rfl
 have hst0 := Stp.call (LS := [blk a10, [b4], [b6], [b_p0], M]) (res := []) (par := [[b_p0]]) (R := [blk a10, [b4], [b6], M]) he23 (fun b hb => hsb2 b (fl_left' (P := [[b_p0]]) b hb)) (FR.nil _) (NP.init _ _) (fun x hx => hsb2 x (fl_right' (P := [[b_p0]]) x hx))
 have hsn : ∀ x ∈ fl [blk a10, [b4], [b6], [b_p0], M], x ∈ fl ([] ++ ([[b_p0]] ++ [blk a10, [b4], [b6], M])) := pick_sub [some 1, some 2, some 3, some 0, some 4] _ rfl
 have hst := hst0.res hsn
 replace hs_p0_0 := hs_p0_0.step hst
 replace hb4 := he23.box hb4 ((MS.outs (P := [[b_p0]]) hpk2 1 rfl) _ mem1)
 replace ho8 := ho8.step hst he23 (MS.outs (P := [[b_p0]]) hpk2 0 rfl)
 replace hb6 := he23.box hb6 ((MS.outs (P := [[b_p0]]) hpk2 2 rfl) _ mem1)
 replace hms := hms.ev he23
 replace hev := hev.then he23 (fun b hb => .inl (by simpa using hb))
 replace hb_p0 := hp23_0
 clear hpk hsb hsb0 hpk2 hsb2 hst0 hsn hst
 obtain ⟨x24, hx24, h⟩ := bind_some h
 obtain ⟨g24, cs24, ha, hr24, hc24, hR⟩ := own_index (Mo := []) tsl23 ho8 hx24
 subst ha
 obtain ⟨_, _, rfl, rfl, ⟨_, _, rfl, rfl, ⟨_, _, rfl, rfl, rfl⟩⟩⟩ := hR
 refine x_indexAddr (xv := .slice (Ad g24 0) ((([] : List (Int × Int × Int × Int)) ++ p1_0)).length c10) (yv := Vi x22.1) (.pointer (some ⟨g24, (Int.toNat x22.1) * (eIt4).n, none⟩)) rfl rfl rfl rfl hr24 ?_
 refine x_pure 1 [(5, .pointer (some ⟨g24, (Int.toNat x22.1) * (eIt4).n, none⟩))] _ _ _ (by kernel_rfl) ?_
 refine x_ek ?_
 refine c_seq ?_
 refine c_sp ?_
 refine x_pure 1 [(33, Vp b_p0 0)] _ _ _ (by kernel_rfl) ?_
 obtain ⟨x26, hx, h⟩ := bind_some h
 have hpk : MS w23 ([[b_p0]] ++ [blk (Ad g24 0), [b4], [b6], M]) := hms.pick [some 3, some 0, some 1, some 2, some 4] _ rfl
 have hsb0 : ∀ x ∈ fl ([[b_p0]] ++ [blk (Ad g24 0), [b4], [b6], M]), x ∈ fl [blk (Ad g24 0), [b4], [b6], [b_p0], M] := pick_sub [some 3, some 0, some 1, some 2, some 4] _ rfl
 have hsb : ∀ x ∈ fl ([[b_p0]] ++ [(fl [blk (Ad g24 0), [b4], [b6], M])]), x ∈ fl [blk (Ad g24 0), [b4], [b6], [b_p0], M] := fun x hx => hsb0 x (fl_unfold x hx)
 have hcall := gen_Maker_Next_w b_p0 a_p0_0 c_p0_0 p0_0 x22.2 4 _ w23 (fl [blk (Ad g24 0), [b4], [b6], M]) (hpk.fold (P := [[b_p0]])) (hs_p0_0.sub hsb) hb_p0 hx
 refine x_call 37 #[] #[] [Vp b_p0 0, Vi 4] _ rfl rfl rfl rfl hcall ?_
 rintro v w27 ⟨rfl, he27, hp27_0⟩
 clear hcall hx
 refine inl1 ?_
 have hpk2 : MS w23 ([[b_p0]] ++ [blk (Ad g24 0), [b4], [b6], M]) := hms.pick [some 3, some 0, some 1, some 2, some 4] _ rfl
 have hsb2 : ∀ x ∈ fl ([[b_p0]] ++ [blk (Ad g24 0), [b4], [b6], M]), x ∈ fl [blk (Ad g24 0), [b4], [b6], [b_p0], M] := pick_sub [some 3, some 0, some 1, some 2, some 4] _ rfl
 have hst0 := Stp.call (LS := [blk (Ad g24 0), [b4], [b6], [b_p0], M]) (res := []) (par := [[b_p0]]) (R := [blk (Ad g24 0), [b4], [b6], M]) he27 (fun b hb => hsb2 b (fl_left' (P := [[b_p0]]) b hb)) (FR.nil _) (NP.init _ _) (fun x hx => hsb2 x (fl_right' (P := [[b_p0]]) x hx))
 have hsn : ∀ x ∈ fl [blk (Ad g24 0), [b4], [b6], [b_p0], M], x ∈ fl ([] ++ ([[b_p0]] ++ [blk (Ad g24 0), [b4], [b6], M])) := pick_sub [some 1, some 2, some 3, some 0, some 4] _ rfl
 have hst := hst0.res hsn
 replace hs_p0_0 := hs_p0_0.step hst
 replace hb4 := he27.box hb4 ((MS.outs (P := [[b_p0]]) hpk2 1 rfl) _ mem1)
 replace ho8 := ho8.step hst he27 (MS.outs (P := [[b_p0]]) hpk2 0 rfl)
 replace hb6 := he27.box hb6 ((MS.outs (P := [[b_p0]]) hpk2 2 rfl) _ mem1)
 replace hms := hms.ev he27
 replace hev := hev.then he27 (fun b hb => .inl (by simpa using hb))
 replace hb_p0 := hp27_0
 clear hpk hsb hsb0 hpk2 hsb2 hst0 hsn hst
 refine x_ek ?_
 refine c_block ?_
 refine c_sp ?_
 refine x_pure 2 [(42, .bool (x26.1 == 0)), (41, .bool (x26.1 == 0))] _ _ _ (by kernel_rfl) ?_
 refine x_ek ?_
 refine c_cond (x26.1 == 0) rfl (fun hb => ?_) (fun hb => ?_)
 · replace h := ite_t hb h
   refine c_plain ?_
   refine x_pure 2 [(43, .pointer (some ⟨g24, (Int.toNat x22.1) * (eIt4).n, none⟩)), (44, Vp b_p0 0)] _ _ _ (by kernel_rfl) ?_
   refine x_buildSlice (vs := [(0, Vi (-1)), (1, Vi 15), (2, Vi 16)]) #[Vi (-1), Vi 15, Vi 16] 3 rfl rfl rfl (by kernel_rfl) (fun b28 w28 hq28 hb28 he28 hz28 => ?_)
   refine inl1 ?_
   have hms0 := hms
   have hst := Stp.ext (ls := [blk (Ad g24 0), [b4], [b6], [b_p0], M]) he28
   replace hb_p0 := he28.box hb_p0 nn
   replace hs_p0_0 := hs_p0_0.step hst
   replace hb4 := he28.box hb4 nn
   replace ho8 := ho8.step hst he28 nn2
   replace hb6 := he28.box hb6 nn
   replace hms := hms.ev he28
   replace hev := hev.ext he28
   have hs28 : SlR (eInt .i64) w28 (fl [blk (Ad g24 0), [b4], [b6], [b_p0], M]) (Ad b28 0) 3 ([(-1), 15, 16]) := ro_of_box hms0 hq28 hb28 rfl rfl (cells_at (cs := [Vi (-1), Vi 15, Vi 16]) (CellsOf.cons (c := [Vi (-1)]) rfl (CellsOf.cons (c := [Vi 15]) rfl (CellsOf.cons (c := [Vi 16]) rfl CellsOf.nil))))
   clear hb28 hms0
   obtain ⟨x30, hx, h⟩ := bind_some h
   have hpk : MS w28 ([[b_p0]] ++ [blk (Ad g24 0), [b4], [b6], M]) := hms.pick [some 3, some 0, some 1, some 2, some 4] _ rfl
   have hsb0 : ∀ x ∈ fl ([[b_p0]] ++ [blk (Ad g24 0), [b4], [b6], M]), x ∈ fl [blk (Ad g24 0), [b4], [b6], [b_p0], M] := pick_sub [some 3, some 0, some 1, some 2, some 4] _ rfl
   have hsb : ∀ x ∈ fl ([[b_p0]] ++ [(fl [blk (Ad g24 0), [b4], [b6], M])]), x ∈ fl [blk (Ad g24 0), [b4], [b6], [b_p0], M] := fun x hx => hsb0 x (fl_unfold x hx)
   have hcall := gen_Maker_Pick_w b_p0 a_p0_0 c_p0_0 p0_0 x26.2 (Ad b28 0) 3 ([(-1), 15, 16]) _ w28 (fl [blk (Ad g24 0), [b4], [b6], M]) (hpk.fold (P := [[b_p0]])) (hs_p0_0.sub hsb) hb_p0 (hs28.sub hsb) hx
   refine x_call 31 #[] #[] [Vp b_p0 0, .slice (Ad b28 0) ([(-1), 15, 16]).length 3] _ rfl rfl rfl rfl hcall ?_
   rintro v w31 ⟨rfl, he31, hp31_0⟩
   clear hcall hx
   refine inl1 ?_
   have hpk2 : MS w28 ([[b_p0]] ++ [blk (Ad g24 0), [b4], [b6], M]) := hms.pick [some 3, some 0, some 1, some 2, some 4] _ rfl
   have hsb2 : ∀ x ∈ fl ([[b_p0]] ++ [blk (Ad g24 0), [b4], [b6], M]), x ∈ fl [blk (Ad g24 0), [b4], [b6], [b_p0], M] := pick_sub [some 3, some 0, some 1, some 2, some 4] _ rfl
   have hst0 := Stp.call (LS := [blk (Ad g24 0), [b4], [b6], [b_p0], M]) (res := []) (par := [[b_p0]]) (R := [blk (Ad g24 0), [b4], [b6], M]) he31 (fun b hb => hsb2 b (fl_left' (P := [[b_p0]]) b hb)) (FR.nil _) (NP.init _ _) (fun x hx => hsb2 x (fl_right' (P := [[b_p0]]) x hx))
   have hsn : ∀ x ∈ fl [blk (Ad g24 0), [b4], [b6], [b_p0], M], x ∈ fl ([] ++ ([[b_p0]] ++ [blk (Ad g24 0), [b4], [b6], M])) := pick_sub [some 1, some 2, some 3, some 0, some 4] _ rfl
   have hst := hst0.res hsn
   replace hs_p0_0 := hs_p0_0.step hst
   replace hb4 := he31.box hb4 ((MS.outs (P := [[b_p0]]) hpk2 1 rfl) _ mem1)
   replace ho8 := ho8.step hst he31 (MS.outs (P := [[b_p0]]) hpk2 0 rfl)
   replace hb6 := he31.box hb6 ((MS.outs (P := [[b_p0]]) hpk2 2 rfl) _ mem1)
   replace hs28 := hs28.step hst
   replace hms := hms.ev he31
   replace hev := hev.then he31 (fun b hb => .inl (by simpa using hb))
   replace hb_p0 := hp31_0
   clear hpk hsb hsb0 hpk2 hsb2 hst0 hsn hst
   refine x_pure 1 [(47, .pointer (some ⟨g24, (Int.toNat x22.1) * (eIt4).n, none⟩))] _ _ _ (by kernel_rfl) ?_
   refine x_fieldAddr (xv := .pointer (some ⟨g24, (Int.toNat x22.1) * (eIt4).n, none⟩)) (.pointer (some ⟨g24, (Int.toNat x22.1) * (eIt4).n, none⟩)) rfl rfl rfl (reads_field tfld79_0 _ _) ?_
   obtain ⟨w32, hr32, he32, ho32⟩ := own_store (y := (x30.1, x24.2.1, x24.2.2.1, x24.2.2.2)) 0 (Vi x30.1) tcell3 ho8 (mem_flat 0 rfl _ mem1) hx24 rfl rfl (by intro w M cs hR; obtain ⟨_, _, rfl, rfl, ⟨_, _, rfl, rfl, ⟨_, _, rfl, rfl, rfl⟩⟩⟩ := hR; exact ⟨[_], _, rfl, rfl, ⟨[_], _, rfl, rfl, ⟨[_], _, rfl, rfl, rfl⟩⟩⟩)
   refine x_store w32 (xv := .pointer (some ⟨g24, (Int.toNat x22.1) * (eIt4).n, none⟩)) (yv := Vi x30.1) rfl rfl rfl rfl hr32 ?_
   refine inl1 ?_
   have hst := Stp.ev' (ls := [blk (Ad g24 0), [b4], [b6], [b_p0], M]) he32 (mem_flat 0 rfl)
   replace hb_p0 := he32.box hb_p0 (hms.apart 3 0 rfl rfl rfl _ mem1)
   replace hs_p0_0 := hs_p0_0.step hst
   replace hb4 := he32.box hb4 (hms.apart 1 0 rfl rfl rfl _ mem1)
   replace hb6 := he32.box hb6 (hms.apart 2 0 rfl rfl rfl _ mem1)
   replace hs28 := hs28.step hst
   replace hms := hms.ev he32
   replace hev := hev.then he32 (fun b hb => .inr (hfr.at 0 rfl b hb))
   replace ho8 := ho32
   have hsl : (Value.slice (Ad g24 0) ((([] : List (Int × Int × Int × Int)) ++ p1_0)).length c10) = (Value.slice (Ad g24 0) (((([] : List (Int × Int × Int × Int)) ++ p1_0).set (Int.toNat x22.1) (x30.1, x24.2.1, x24.2.2.1, x24.2.2.2))).length c10) := by first | (rw [List.length_set]; done) | simp only [List.length_set]
   rw [hsl] at hb4
   clear hsl
   refine x_end rfl ?_
   refine k_block ?_
   refine k_then ?_
   refine c_norm [(3, Vp b4 0), (4, Vp b6 0)] ⟨rfl, rfl, trivial⟩ (fun J => ?_)
   refine c_sp ?_
   refine x_load (xv := Vp b4 0) (.agg #[.slice (Ad g24 0) (((([] : List (Int × Int × Int × Int)) ++ p1_0).set (Int.toNat x22.1) (x30.1, x24.2.1, x24.2.2.1, x24.2.2.2))).length c10, Vi p1_1]) rfl rfl rfl (reads_boxagg 0 [.slice (Ad g24 0) (((([] : List (Int × Int × Int × Int)) ++ p1_0).set (Int.toNat x22.1) (x30.1, x24.2.1, x24.2.2.1, x24.2.2.2))).length c10, Vi p1_1] tagg25 hb4 nn rfl) ?_
   obtain ⟨w33, hr33, hb33, he33⟩ := store_boxagg 0 [.slice (Ad g24 0) (((([] : List (Int × Int × Int × Int)) ++ p1_0).set (Int.toNat x22.1) (x30.1, x24.2.1, x24.2.2.1, x24.2.2.2))).length c10, Vi p1_1] #[.slice (Ad g24 0) (((([] : List (Int × Int × Int × Int)) ++ p1_0).set (Int.toNat x22.1) (x30.1, x24.2.1, x24.2.2.1, x24.2.2.2))).length c10, Vi p1_1] tagg25 hb6 rfl rfl rfl
   refine x_store w33 (xv := Vp b6 0) (yv := .agg #[.slice (Ad g24 0) (((([] : List (Int × Int × Int × Int)) ++ p1_0).set (Int.toNat x22.1) (x30.1, x24.2.1, x24.2.2.1, x24.2.2.2))).length c10, Vi p1_1]) rfl rfl rfl rfl hr33 ?_
   refine inl1 ?_
   have hst := Stp.ev' (ls := [blk (Ad g24 0), [b4], [b6], [b_p0], M]) he33 (mem_flat 2 rfl)
   replace hb_p0 := he33.box hb_p0 (hms.apart 3 2 rfl rfl rfl _ mem1)
   replace hs_p0_0 := hs_p0_0.step hst
   replace hb4 := he33.box hb4 (hms.apart 1 2 rfl rfl rfl _ mem1)
   replace ho8 := ho8.step hst he33 (hms.apart 0 2 rfl rfl rfl)
   replace hms := hms.ev he33
   replace hev := hev.then he33 (fun b hb => .inr (hfr.at 2 rfl b hb))
   replace hb6 := hb33
   refine x_ek ?_
   refine c_ret ?_
   refine r_ret (r_vals [.agg #[.slice (Ad g24 0) (((([] : List (Int × Int × Int × Int)) ++ p1_0).set (Int.toNat x22.1) (x30.1, x24.2.1, x24.2.2.1, x24.2.2.2))).length c10, Vi p1_1]] ⟨⟨_, rfl, loadVar_of_reads (reads_boxagg (Mo := []) 0 [.slice (Ad g24 0) (((([] : List (Int × Int × Int × Int)) ++ p1_0).set (Int.toNat x22.1) (x30.1, x24.2.1, x24.2.2.1, x24.2.2.2))).length c10, Vi p1_1] tagg25 hb6 nn rfl)⟩, trivial⟩ ?_)
   have hx := some_inj h
   subst hx
   have hmr : MS w33 [blk (Ad g24 0), [b_p0], M] := hms.pick [some 0, some 3, some 4] _ rfl
   have hsu : ∀ x ∈ fl [blk (Ad g24 0), [b_p0], M], x ∈ fl [blk (Ad g24 0), [b4], [b6], [b_p0], M] := pick_sub [some 0, some 3, some 4] _ rfl
   have hfe : FR w.heap.size [blk (Ad g24 0)] := hfr.pick [some 0] _ rfl
   exact ⟨(Ad g24 0), c10, rfl, hev, hb_p0, hmr, hfe, ho8.sub hsu⟩
 replace h := ite_f hb h
 refine c_sp ?_
 refine x_pure 2 [(50, .bool (x26.1 == 1)), (49, .bool (x26.1 == 1))] _ _ _ (by kernel_rfl) ?_
 refine x_ek ?_
 refine c_norm [(0, Vp b_p0 0), (3, Vp b4 0), (4, Vp b6 0), (5, .pointer (some ⟨g24, (Int.toNat x22.1) * (eIt4).n, none⟩)), (34, Vi x26.1), (49, .bool (x26.1 == 1))] ⟨rfl, rfl, rfl, rfl, rfl, rfl, trivial⟩ (fun J => ?_)
 refine c_cond (x26.1 == 1) rfl (fun hb => ?_) (fun hb => ?_)
 · replace h := ite_t hb h
   refine c_plain ?_
   refine x_pure 2 [(51, .pointer (some ⟨g24, (Int.toNat x22.1) * (eIt4).n, none⟩)), (52, Vp b_p0 0)] _ _ _ (by kernel_rfl) ?_
   refine x_buildSlice (vs := [(0, Vi (-1)), (1, Vi 31), (2, Vi 32)]) #[Vi (-1), Vi 31, Vi 32] 3 rfl rfl rfl (by kernel_rfl) (fun b34 w34 hq34 hb34 he34 hz34 => ?_)
   refine inl1 ?_
   have hms0 := hms
   have hst := Stp.ext (ls := [blk (Ad g24 0), [b4], [b6], [b_p0], M]) he34
   replace hb_p0 := he34.box hb_p0 nn
   replace hs_p0_0 := hs_p0_0.step hst
   replace hb4 := he34.box hb4 nn
   replace ho8 := ho8.step hst he34 nn2
   replace hb6 := he34.box hb6 nn
   replace hms := hms.ev he34
   replace hev := hev.ext he34
   have hs34 : SlR (eInt .i64) w34 (fl [blk (Ad g24 0), [b4], [b6], [b_p0], M]) (Ad b34 0) 3 ([(-1), 31, 32]) := ro_of_box hms0 hq34 hb34 rfl rfl (cells_at (cs := [Vi (-1), Vi 31, Vi 32]) (CellsOf.cons (c := [Vi (-1)]) rfl (CellsOf.cons (c := [Vi 31]) rfl (CellsOf.cons (c := [Vi 32]) rfl CellsOf.nil))))
   clear hb34 hms0
   obtain ⟨x36, hx, h⟩ := bind_some h
   have hpk : MS w34 ([[b_p0]] ++ [blk (Ad g24 0), [b4], [b6], M]) := hms.pick [some 3, some 0, some 1, some 2, some 4] _ rfl
   have hsb0 : ∀ x ∈ fl ([[b_p0]] ++ [blk (Ad g24 0), [b4], [b6], M]), x ∈ fl [blk (Ad g24 0), [b4], [b6], [b_p0], M] := pick_sub [some 3, some 0, some 1, some 2, some 4] _ rfl
   have hsb : ∀ x ∈ fl ([[b_p0]] ++ [(fl [blk (Ad g24 0), [b4], [b6], M])]), x ∈ fl [blk (Ad g24 0), [b4], [b6], [b_p0], M] := fun x hx => hsb0 x (fl_unfold x hx)
   have hcall := gen_Maker_Pick_w b_p0 a_p0_0 c_p0_0 p0_0 x26.2 (Ad b34 0) 3 ([(-1), 31, 32]) _ w34 (fl [blk (Ad g24 0), [b4], [b6], M]) (hpk.fold (P := [[b_p0]])) (hs_p0_0.sub hsb) hb_p0 (hs34.sub hsb) hx
   refine x_call 31 #[] #[] [Vp b_p0 0, .slice (Ad b34 0) ([(-1), 31, 32]).length 3] _ rfl rfl rfl rfl hcall ?_
   rintro v w37 ⟨rfl, he37, hp37_0⟩
   clear hcall hx
   refine inl1 ?_
   have hpk2 : MS w34 ([[b_p0]] ++ [blk (Ad g24 0), [b4], [b6], M]) := hms.pick [some 3, some 0, some 1, some 2, some 4] _ rfl
   have hsb2 : ∀ x ∈ fl ([[b_p0]] ++ [blk (Ad g24 0), [b4], [b6], M]), x ∈ fl [blk (Ad g24 0), [b4], [b6], [b_p0], M] := pick_sub [some 3, some 0, some 1, some 2, some 4] _ rfl
   have hst0 := Stp.call (LS := [blk (Ad g24 0), [b4], [b6], [b_p0], M]) (res := []) (par := [[b_p0]]) (R := [blk (Ad g24 0), [b4], [b6], M]) he37 (fun b hb => hsb2 b (fl_left' (P := [[b_p0]]) b hb)) (FR.nil _) (NP.init _ _) (fun x hx => hsb2 x (fl_right' (P := [[b_p0]]) x hx))
   have hsn : ∀ x ∈ fl [blk (Ad g24 0), [b4], [b6], [b_p0], M], x ∈ fl ([] ++ ([[b_p0]] ++ [blk (Ad g24 0), [b4], [b6], M])) := pick_sub [some 1, some 2, some 3, some 0, some 4] _ rfl
   have hst := hst0.res hsn
   replace hs_p0_0 := hs_p0_0.step hst
   replace hb4 := he37.box hb4 ((MS.outs (P := [[b_p0]]) hpk2 1 rfl) _ mem1)
   replace ho8 := ho8.step hst he37 (MS.outs (P := [[b_p0]]) hpk2 0 rfl)
   replace hb6 := he37.box hb6 ((MS.outs (P := [[b_p0]]) hpk2 2 rfl) _ mem1)
   replace hs34 := hs34.step hst
   replace hms := hms.ev he37
   replace hev := hev.then he37 (fun b hb => .inl (by simpa using hb))
   replace hb_p0 := hp37_0
   clear hpk hsb hsb0 hpk2 hsb2 hst0 hsn hst
   refine x_pure 1 [(55, .pointer (some ⟨g24, (Int.toNat x22.1) * (eIt4).n, none⟩))] _ _ _ (by kernel_rfl) ?_
   refine x_fieldAddr (xv := .pointer (some ⟨g24, (Int.toNat x22.1) * (eIt4).n, none⟩)) (.pointer (some ⟨g24, (Int.toNat x22.1) * (eIt4).n + 1, none⟩)) rfl rfl rfl (reads_field tfld79_1 _ _) ?_
   obtain ⟨w38, hr38, he38, ho38⟩ := own_store (y := (x24.1, x36.1, x24.2.2.1, x24.2.2.2)) 1 (Vi x36.1) tcell3 ho8 (mem_flat 0 rfl _ mem1) hx24 rfl rfl (by intro w M cs hR; obtain ⟨_, _, rfl, rfl, ⟨_, _, rfl, rfl, ⟨_, _, rfl, rfl, rfl⟩⟩⟩ := hR; exact ⟨[_], _, rfl, rfl, ⟨[_], _, rfl, rfl, ⟨[_], _, rfl, rfl, rfl⟩⟩⟩)
   refine x_store w38 (xv := .pointer (some ⟨g24, (Int.toNat x22.1) * (eIt4).n + 1, none⟩)) (yv := Vi x36.1) rfl rfl rfl rfl hr38 ?_
   refine inl1 ?_
   have hst := Stp.ev' (ls := [blk (Ad g24 0), [b4], [b6], [b_p0], M]) he38 (mem_flat 0 rfl)
   replace hb_p0 := he38.box hb_p0 (hms.apart 3 0 rfl rfl rfl _ mem1)
   replace hs_p0_0 := hs_p0_0.step hst
   replace hb4 := he38.box hb4 (hms.apart 1 0 rfl rfl rfl _ mem1)
   replace hb6 := he38.box hb6 (hms.apart 2 0 rfl rfl rfl _ mem1)
   replace hs34 := hs34.step hst
   replace hms := hms.ev he38
   replace hev := hev.then he38 (fun b hb => .inr (hfr.at 0 rfl b hb))
   replace ho8 := ho38
   have hsl : (Value.slice (Ad g24 0) ((([] : List (Int × Int × Int × Int)) ++ p1_0)).length c10) = (Value.slice (Ad g24 0) (((([] : List (Int × Int × Int × Int)) ++ p1_0).set (Int.toNat x22.1) (x24.1, x36.1, x24.2.2.1, x24.2.2.2))).length c10) := by first | (rw [List.length_set]; done) | simp only [List.length_set]
   rw [hsl] at hb4
   clear hsl
   refine x_end rfl ?_
   refine k_block ?_
   refine k_then ?_
   refine c_sp ?_
   refine x_load (xv := Vp b4 0) (.agg #[.slice (Ad g24 0) (((([] : List (Int × Int × Int × Int)) ++ p1_0).set (Int.toNat x22.1) (x24.1, x36.1, x24.2.2.1, x24.2.2.2))).length c10, Vi p1_1]) rfl rfl rfl (reads_boxagg 0 [.slice (Ad g24 0) (((([] : List (Int × Int × Int × Int)) ++ p1_0).set (Int.toNat x22.1) (x24.1, x36.1, x24.2.2.1, x24.2.2.2))).length c10, Vi p1_1] tagg25 hb4 nn rfl) ?_
   obtain ⟨w39, hr39, hb39, he39⟩ := store_boxagg 0 [.slice (Ad g24 0) (((([] : List (Int × Int × Int × Int)) ++ p1_0).set (Int.toNat x22.1) (x24.1, x36.1, x24.2.2.1, x24.2.2.2))).length c10, Vi p1_1] #[.slice (Ad g24 0) (((([] : List (Int × Int × Int × Int)) ++ p1_0).set (Int.toNat x22.1) (x24.1, x36.1, x24.2.2.1, x24.2.2.2))).length c10, Vi p1_1] tagg25 hb6 rfl rfl rfl
   refine x_store w39 (xv := Vp b6 0) (yv := .agg #[.slice (Ad g24 0) (((([] : List (Int × Int × Int × Int)) ++ p1_0).set (Int.toNat x22.1) (x24.1, x36.1, x24.2.2.1, x24.2.2.2))).length c10, Vi p1_1]) rfl rfl rfl rfl hr39 ?_
   refine inl1 ?_
   have hst := Stp.ev' (ls := [blk (Ad g24 0), [b4], [b6], [b_p0], M]) he39 (mem_flat 2 rfl)
   replace hb_p0 := he39.box hb_p0 (hms.apart 3 2 rfl rfl rfl _ mem1)
   replace hs_p0_0 := hs_p0_0.step hst
   replace hb4 := he39.box hb4 (hms.apart 1 2 rfl rfl rfl _ mem1)
   replace ho8 := ho8.step hst he39 (hms.apart 0 2 rfl rfl rfl)
   replace hms := hms.ev he39
   replace hev := hev.then he39 (fun b hb => .inr (hfr.at 2 rfl b hb))
   replace hb6 := hb39
   refine x_ek ?_
   refine c_ret ?_
   refine r_ret (r_vals [.agg #[.slice (Ad g24 0) (((([] : List (Int × Int × Int × Int)) ++ p1_0).set (Int.toNat x22.1) (x24.1, x36.1, x24.2.2.1, x24.2.2.2))).length c10, Vi p1_1]] ⟨⟨_, rfl, loadVar_of_reads (reads_boxagg (Mo := []) 0 [.slice (Ad g24 0) (((([] : List (Int × Int × Int × Int)) ++ p1_0).set (Int.toNat x22.1) (x24.1, x36.1, x24.2.2.1, x24.2.2.2))).length c10, Vi p1_1] tagg25 hb6 nn rfl)⟩, trivial⟩ ?_)
   have hx := some_inj h
   subst hx
   have hmr : MS w39 [blk (Ad g24 0), [b_p0], M] := hms.pick [some 0, some 3, some 4] _ rfl
   have hsu : ∀ x ∈ fl [blk (Ad g24 0), [b_p0], M], x ∈ fl [blk (Ad g24 0), [b4], [b6], [b_p0], M] := pick_sub [some 0, some 3, some 4] _ rfl
   have hfe : FR w.heap.size [blk (Ad g24 0)] := hfr.pick [some 0] _ rfl
   exact ⟨(Ad g24 0), c10, rfl, hev, hb_p0, hmr, hfe, ho8.sub hsu⟩
 replace h := ite_f hb h
 refine c_sp ?_
 refine x_pure 2 [(58, .bool (x26.1 == 2)), (57, .bool (x26.1 == 2))] _ _ _ (by kernel_rfl) ?_
 refine x_ek ?_
 refine c_cond (x26.1 == 2) rfl (fun hb => ?_) (fun hb => ?_)
 · replace h := ite_t hb h
   refine c_plain ?_
   refine x_pure 2 [(59, .pointer (some ⟨g24, (Int.toNat x22.1) * (eIt4).n, none⟩)), (60, Vp b_p0 0)] _ _ _ (by kernel_rfl) ?_
   refine x_buildSlice (vs := [(0, Vi (-1)), (1, Vi 0), (2, Vi 5), (3, Vi 12), (4, Vi 13)]) #[Vi (-1), Vi 0, Vi 5, Vi 12, Vi 13] 3 rfl rfl rfl (by kernel_rfl) (fun b40 w40 hq40 hb40 he40 hz40 => ?_)
   refine inl1 ?_
   have hms0 := hms
   have hst := Stp.ext (ls := [blk (Ad g24 0), [b4], [b6], [b_p0], M]) he40
   replace hb_p0 := he40.box hb_p0 nn
   replace hs_p0_0 := hs_p0_0.step hst
   replace hb4 := he40.box hb4 nn
   replace ho8 := ho8.step hst he40 nn2
   replace hb6 := he40.box hb6 nn
   replace hms := hms.ev he40
   replace hev := hev.ext he40
   have hs40 : SlR (eInt .i64) w40 (fl [blk (Ad g24 0), [b4], [b6], [b_p0], M]) (Ad b40 0) 5 ([(-1), 0, 5, 12, 13]) := ro_of_box hms0 hq40 hb40 rfl rfl (cells_at (cs := [Vi (-1), Vi 0, Vi 5, Vi 12, Vi 13]) (CellsOf.cons (c := [Vi (-1)]) rfl (CellsOf.cons (c := [Vi 0]) rfl (CellsOf.cons (c := [Vi 5]) rfl (CellsOf.cons (c := [Vi 12]) rfl (CellsOf.cons (c := [Vi 13]) rfl CellsOf.nil))))))
   clear hb40 hms0
   obtain ⟨x42, hx, h⟩ := bind_some h
   have hpk : MS w40 ([[b_p0]] ++ [blk (Ad g24 0), [b4], [b6], M]) := hms.pick [some 3, some 0, some 1, some 2, some 4] _ rfl
   have hsb0 : ∀ x ∈ fl ([[b_p0]] ++ [blk (Ad g24 0), [b4], [b6], M]), x ∈ fl [blk (Ad g24 0), [b4], [b6], [b_p0], M] := pick_sub [some 3, some 0, some 1, some 2, some 4] _ rfl
   have hsb : ∀ x ∈ fl ([[b_p0]] ++ [(fl [blk (Ad g24 0), [b4], [b6], M])]), x ∈ fl [blk (Ad g24 0), [b4], [b6], [b_p0], M] := fun x hx => hsb0 x (fl_unfold x hx)
   have hcall := gen_Maker_Pick_w b_p0 a_p0_0 c_p0_0 p0_0 x26.2 (Ad b40 0) 5 ([(-1), 0, 5, 12, 13]) _ w40 (fl [blk (Ad g24 0), [b4], [b6], M]) (hpk.fold (P := [[b_p0]])) (hs_p0_0.sub hsb) hb_p0 (hs40.sub hsb) hx
   refine x_call 31 #[] #[] [Vp b_p0 0, .slice (Ad b40 0) ([(-1), 0, 5, 12, 13]).length 5] _ rfl rfl rfl rfl hcall ?_
   rintro v w43 ⟨rfl, he43, hp43_0⟩
   clear hcall hx
   refine inl1 ?_
   have hpk2 : MS w40 ([[b_p0]] ++ [blk (Ad g24 0), [b4], [b6], M]) := hms.pick [some 3, some 0, some 1, some 2, some 4] _ rfl
   have hsb2 : ∀ x ∈ fl ([[b_p0]] ++ [blk (Ad g24 0), [b4], [b6], M]), x ∈ fl [blk (Ad g24 0), [b4], [b6], [b_p0], M] := pick_sub [some 3, some 0, some 1, some 2, some 4] _ rfl
   have hst0 := Stp.call (LS := [blk (Ad g24 0), [b4], [b6], [b_p0], M]) (res := []) (par := [[b_p0]]) (R := [blk (Ad g24 0), [b4], [b6], M]) he43 (fun b hb => hsb2 b (fl_left' (P := [[b_p0]]) b hb)) (FR.nil _) (NP.init _ _) (fun x hx => hsb2 x (fl_right' (P := [[b_p0]]) x hx))
   have hsn : ∀ x ∈ fl [blk (Ad g24 0), [b4], [b6], [b_p0], M], x ∈ fl ([] ++ ([[b_p0]] ++ [blk (Ad g24 0), [b4], [b6], M])) := pick_sub [some 1, some 2, some 3, some 0, some 4] _ rfl
   have hst := hst0.res hsn
   replace hs_p0_0 := hs_p0_0.step hst
   replace hb4 := he43.box hb4 ((MS.outs (P := [[b_p0]]) hpk2 1 rfl) _ mem1)
   replace ho8 := ho8.step hst he43 (MS.outs (P := [[b_p0]]) hpk2 0 rfl)
   replace hb6 := he43.box hb6 ((MS.outs (P := [[b_p0]]) hpk2 2 rfl) _ mem1)
   replace hs40 := hs40.step hst
   replace hms := hms.ev he43
   replace hev := hev.then he43 (fun b hb => .inl (by simpa using hb))
   replace hb_p0 := hp43_0
   clear hpk hsb hsb0 hpk2 hsb2 hst0 hsn hst
   refine x_pure 1 [(63, .pointer (some ⟨g24, (Int.toNat x22.1) * (eIt4).n, none⟩))] _ _ _ (by kernel_rfl) ?_
   refine x_fieldAddr (xv := .pointer (some ⟨g24, (Int.toNat x22.1) * (eIt4).n, none⟩)) (.pointer (some ⟨g24, (Int.toNat x22.1) * (eIt4).n + 2, none⟩)) rfl rfl rfl (reads_field tfld79_2 _ _) ?_
   obtain ⟨w44, hr44, he44, ho44⟩ := own_store (y := (x24.1, x24.2.1, x42.1, x24.2.2.2)) 2 (Vi x42.1) tcell3 ho8 (mem_flat 0 rfl _ mem1) hx24 rfl rfl (by intro w M cs hR; obtain ⟨_, _, rfl, rfl, ⟨_, _, rfl, rfl, ⟨_, _, rfl, rfl, rfl⟩⟩⟩ := hR; exact ⟨[_], _, rfl, rfl, ⟨[_], _, rfl, rfl, ⟨[_], _, rfl, rfl, rfl⟩⟩⟩)
   refine x_store w44 (xv := .pointer (some ⟨g24, (Int.toNat x22.1) * (eIt4).n + 2, none⟩)) (yv := Vi x42.1) rfl rfl rfl rfl hr44 ?_
   refine inl1 ?_
   have hst := Stp.ev' (ls := [blk (Ad g24 0), [b4], [b6], [b_p0], M]) he44 (mem_flat 0 rfl)
   replace hb_p0 := he44.box hb_p0 (hms.apart 3 0 rfl rfl rfl _ mem1)
   replace hs_p0_0 := hs_p0_0.step hst
   replace hb4 := he44.box hb4 (hms.apart 1 0 rfl rfl rfl _ mem1)
   replace hb6 := he44.box hb6 (hms.apart 2 0 rfl rfl rfl _ mem1)
   replace hs40 := hs40.step hst
   replace hms := hms.ev he44
   replace hev := hev.then he44 (fun b hb => .inr (hfr.at 0 rfl b hb))
   replace ho8 := ho44
   have hsl : (Value.slice (Ad g24 0) ((([] : List (Int × Int × Int × Int)) ++ p1_0)).length c10) = (Value.slice (Ad g24 0) (((([] : List (Int × Int × Int × Int)) ++ p1_0).set (Int.toNat x22.1) (x24.1, x24.2.1, x42.1, x24.2.2.2))).length c10) := by first | (rw [List.length_set]; done) | simp only [List.length_set]
   rw [hsl] at hb4
   clear hsl
   refine x_end rfl ?_
   refine k_block ?_
   refine k_then ?_
   refine c_sp ?_
   refine x_load (xv := Vp b4 0) (.agg #[.slice (Ad g24 0) (((([] : List (Int × Int × Int × Int)) ++ p1_0).set (Int.toNat x22.1) (x24.1, x24.2.1, x42.1, x24.2.2.2))).length c10, Vi p1_1]) rfl rfl rfl (reads_boxagg 0 [.slice (Ad g24 0) (((([] : List (Int × Int × Int × Int)) ++ p1_0).set (Int.toNat x22.1) (x24.1, x24.2.1, x42.1, x24.2.2.2))).length c10, Vi p1_1] tagg25 hb4 nn rfl) ?_
   obtain ⟨w45, hr45, hb45, he45⟩ := store_boxagg 0 [.slice (Ad g24 0) (((([] : List (Int × Int × Int × Int)) ++ p1_0).set (Int.toNat x22.1) (x24.1, x24.2.1, x42.1, x24.2.2.2))).length c10, Vi p1_1] #[.slice (Ad g24 0) (((([] : List (Int × Int × Int × Int)) ++ p1_0).set (Int.toNat x22.1) (x24.1, x24.2.1, x42.1, x24.2.2.2))).length c10, Vi p1_1] tagg25 hb6 rfl rfl rfl
   refine x_store w45 (xv := Vp b6 0) (yv := .agg #[.slice (Ad g24 0) (((([] : List (Int × Int × Int × Int)) ++ p1_0).set (Int.toNat x22.1) (x24.1, x24.2.1, x42.1, x24.2.2.2))).length c10, Vi p1_1]) rfl rfl rfl rfl hr45 ?_
   refine inl1 ?_
   have hst := Stp.ev' (ls := [blk (Ad g24 0), [b4], [b6], [b_p0], M]) he45 (mem_flat 2 rfl)
   replace hb_p0 := he45.box hb_p0 (hms.apart 3 2 rfl rfl rfl _ mem1)
   replace hs_p0_0 := hs_p0_0.step hst
   replace hb4 := he45.box hb4 (hms.apart 1 2 rfl rfl rfl _ mem1)
   replace ho8 := ho8.step hst he45 (hms.apart 0 2 rfl rfl rfl)
   replace hms := hms.ev he45
   replace hev := hev.then he45 (fun b hb => .inr (hfr.at 2 rfl b hb))
   replace hb6 := hb45
   refine x_ek ?_
   refine c_ret ?_
   refine r_ret (r_vals [.agg #[.slice (Ad g24 0) (((([] : List (Int × Int × Int × Int)) ++ p1_0).set (Int.toNat x22.1) (x24.1, x24.2.1, x42.1, x24.2.2.2))).length c10, Vi p1_1]] ⟨⟨_, rfl, loadVar_of_reads (reads_boxagg (Mo := []) 0 [.slice (Ad g24 0) (((([] : List (Int × Int × Int × Int)) ++ p1_0).set (Int.toNat x22.1) (x24.1, x24.2.1, x42.1, x24.2.2.2))).length c10, Vi p1_1] tagg25 hb6 nn rfl)⟩, trivial⟩ ?_)
   have hx := some_inj h
   subst hx
   have hmr : MS w45 [blk (Ad g24 0), [b_p0], M] := hms.pick [some 0, some 3, some 4] _ rfl
   have hsu : ∀ x ∈ fl [blk (Ad g24 0), [b_p0], M], x ∈ fl [blk (Ad g24 0), [b4], [b6], [b_p0], M] := pick_sub [some 0, some 3, some 4] _ rfl
   have hfe : FR w.heap.size [blk (Ad g24 0)] := hfr.pick [some 0] _ rfl
   exact ⟨(Ad g24 0), c10, rfl, hev, hb_p0, hmr, hfe, ho8.sub hsu⟩
 replace h := ite_f hb h
 refine c_plain ?_
 refine x_pure 2 [(35, .pointer (some ⟨g24, (Int.toNat x22.1) * (eIt4).n, none⟩)), (36, Vp b_p0 0)] _ _ _ (by kernel_rfl) ?_
 refine x_buildSlice (vs := [(0, Vi 0), (1, Vi 1), (2, Vi 400), (3, Vi 401)]) #[Vi 0, Vi 1, Vi 400, Vi 401] 3 rfl rfl rfl (by kernel_rfl) (fun b46 w46 hq46 hb46 he46 hz46 => ?_)
 refine inl1 ?_
 have hms0 := hms
 have hst := Stp.ext (ls := [blk (Ad g24 0), [b4], [b6], [b_p0], M]) he46
 replace hb_p0 := he46.box hb_p0 nn
 replace hs_p0_0 := hs_p0_0.step hst
 replace hb4 := he46.box hb4 nn
 replace ho8 := ho8.step hst he46 nn2
 replace hb6 := he46.box hb6 nn
 replace hms := hms.ev he46
 replace hev := hev.ext he46
 have hs46 : SlR (eInt .i64) w46 (fl [blk (Ad g24 0), [b4], [b6], [b_p0], M]) (Ad b46 0) 4 ([0, 1, 400, 401]) := ro_of_box hms0 hq46 hb46 rfl rfl (cells_at (cs := [Vi 0, Vi 1, Vi 400, Vi 401]) (CellsOf.cons (c := [Vi 0]) rfl (CellsOf.cons (c := [Vi 1]) rfl (CellsOf.cons (c := [Vi 400]) rfl (CellsOf.cons (c := [Vi 401]) rfl CellsOf.nil)))))
 clear hb46 hms0
 obtain ⟨x48, hx, h⟩ := bind_some h
 have hpk : MS w46 ([[b_p0]] ++ [blk (Ad g24 0), [b4], [b6], M]) := hms.pick [some 3, some 0, some 1, some 2, some 4] _ rfl
 have hsb0 : ∀ x ∈ fl ([[b_p0]] ++ [blk (Ad g24 0), [b4], [b6], M]), x ∈ fl [blk (Ad g24 0), [b4], [b6], [b_p0], M] := pick_sub [some 3, some 0, some 1, some 2, some 4] _ rfl
 have hsb : ∀ x ∈ fl ([[b_p0]] ++ [(fl [blk (Ad g24 0), [b4], [b6], M])]), x ∈ fl [blk (Ad g24 0), [b4], [b6], [b_p0], M] := fun x hx => hsb0 x (fl_unfold x hx)
 have hcall := gen_Maker_Pick_w b_p0 a_p0_0 c_p0_0 p0_0 x26.2 (Ad b46 0) 4 ([0, 1, 400, 401]) _ w46 (fl [blk (Ad g24 0), [b4], [b6], M]) (hpk.fold (P := [[b_p0]])) (hs_p0_0.sub hsb) hb_p0 (hs46.sub hsb) hx
 refine x_call 31 #[] #[] [Vp b_p0 0, .slice (Ad b46 0) ([0, 1, 400, 401]).length 4] _ rfl rfl rfl rfl hcall ?_
 rintro v w49 ⟨rfl, he49, hp49_0⟩
 clear hcall hx
 refine inl1 ?_
 have hpk2 : MS w46 ([[b_p0]] ++ [blk (Ad g24 0), [b4], [b6], M]) := hms.pick [some 3, some 0, some 1, some 2, some 4] _ rfl
 have hsb2 : ∀ x ∈ fl ([[b_p0]] ++ [blk (Ad g24 0), [b4], [b6], M]), x ∈ fl [blk (Ad g24 0), [b4], [b6], [b_p0], M] := pick_sub [some 3, some 0, some 1, some 2, some 4] _ rfl
 have hst0 := Stp.call (LS := [blk (Ad g24 0), [b4], [b6], [b_p0], M]) (res := []) (par := [[b_p0]]) (R := [blk (Ad g24 0), [b4], [b6], M]) he49 (fun b hb => hsb2 b (fl_left' (P := [[b_p0]]) b hb)) (FR.nil _) (NP.init _ _) (fun x hx => hsb2 x (fl_right' (P := [[b_p0]]) x hx))
 have hsn : ∀ x ∈ fl [blk (Ad g24 0), [b4], [b6], [b_p0], M], x ∈ fl ([] ++ ([[b_p0]] ++ [blk (Ad g24 0), [b4], [b6], M])) := pick_sub [some 1, some 2, some 3, some 0, some 4] _ rfl
 have hst := hst0.res hsn
 replace hs_p0_0 := hs_p0_0.step hst
 replace hb4 := he49.box hb4 ((MS.outs (P := [[b_p0]]) hpk2 1 rfl) _ mem1)
 replace ho8 := ho8.step hst he49 (MS.outs (P := [[b_p0]]) hpk2 0 rfl)
 replace hb6 := he49.box hb6 ((MS.outs (P := [[b_p0]]) hpk2 2 rfl) _ mem1)
 replace hs46 := hs46.step hst
 replace hms := hms.ev he49
 replace hev := hev.then he49 (fun b hb => .inl (by simpa using hb))
 replace hb_p0 := hp49_0
 clear hpk hsb hsb0 hpk2 hsb2 hst0 hsn hst
 refine x_pure 1 [(39, .pointer (some ⟨g24, (Int.toNat x22.1) * (eIt4).n, none⟩))] _ _ _ (by kernel_rfl) ?_
 refine x_fieldAddr (xv := .pointer (some ⟨g24, (Int.toNat x22.1) * (eIt4).n, none⟩)) (.pointer (some ⟨g24, (Int.toNat x22.1) * (eIt4).n + 3, none⟩)) rfl rfl rfl (reads_field tfld79_3 _ _) ?_
 obtain ⟨w50, hr50, he50, ho50⟩ := own_store (y := (x24.1, x24.2.1, x24.2.2.1, x48.1)) 3 (Vi x48.1) tcell3 ho8 (mem_flat 0 rfl _ mem1) hx24 rfl rfl (by intro w M cs hR; obtain ⟨_, _, rfl, rfl, ⟨_, _, rfl, rfl, ⟨_, _, rfl, rfl, rfl⟩⟩⟩ := hR; exact ⟨[_], _, rfl, rfl, ⟨[_], _, rfl, rfl, ⟨[_], _, rfl, rfl, rfl⟩⟩⟩)
 refine x_store w50 (xv := .pointer (some ⟨g24, (Int.toNat x22.1) * (eIt4).n + 3, none⟩)) (yv := Vi x48.1) rfl rfl rfl rfl hr50 ?_
 refine inl1 ?_
 have hst := Stp.ev' (ls := [blk (Ad g24 0), [b4], [b6], [b_p0], M]) he50 (mem_flat 0 rfl)
 replace hb_p0 := he50.box hb_p0 (hms.apart 3 0 rfl rfl rfl _ mem1)
 replace hs_p0_0 := hs_p0_0.step hst
 replace hb4 := he50.box hb4 (hms.apart 1 0 rfl rfl rfl _ mem1)
 replace hb6 := he50.box hb6 (hms.apart 2 0 rfl rfl rfl _ mem1)
 replace hs46 := hs46.step hst
 replace hms := hms.ev he50
 replace hev := hev.then he50 (fun b hb => .inr (hfr.at 0 rfl b hb))
 replace ho8 := ho50
 have hsl : (Value.slice (Ad g24 0) ((([] : List (Int × Int × Int × Int)) ++ p1_0)).length c10) = (Value.slice (Ad g24 0) (((([] : List (Int × Int × Int × Int)) ++ p1_0).set (Int.toNat x22.1) (x24.1, x24.2.1, x24.2.2.1, x48.1))).length c10) := by first | (rw [List.length_set]; done) | simp only [List.length_set]
 rw [hsl] at hb4
 clear hsl
 refine x_end rfl ?_
 refine k_block ?_
 refine k_then ?_
 refine c_sp ?_
 refine x_load (xv := Vp b4 0) (.agg #[.slice (Ad g24 0) (((([] : List (Int × Int × Int × Int)) ++ p1_0).set (Int.toNat x22.1) (x24.1, x24.2.1, x24.2.2.1, x48.1))).length c10, Vi p1_1]) rfl rfl rfl (reads_boxagg 0 [.slice (Ad g24 0) (((([] : List (Int × Int × Int × Int)) ++ p1_0).set (Int.toNat x22.1) (x24.1, x24.2.1, x24.2.2.1, x48.1))).length c10, Vi p1_1] tagg25 hb4 nn rfl) ?_
 obtain ⟨w51, hr51, hb51, he51⟩ := store_boxagg 0 [.slice (Ad g24 0) (((([] : List (Int × Int × Int × Int)) ++ p1_0).set (Int.toNat x22.1) (x24.1, x24.2.1, x24.2.2.1, x48.1))).length c10, Vi p1_1] #[.slice (Ad g24 0) (((([] : List (Int × Int × Int × Int)) ++ p1_0).set (Int.toNat x22.1) (x24.1, x24.2.1, x24.2.2.1, x48.1))).length c10, Vi p1_1] tagg25 hb6 rfl rfl rfl
 refine x_store w51 (xv := Vp b6 0) (yv := .agg #[.slice (Ad g24 0) (((([] : List (Int × Int × Int × Int)) ++ p1_0).set (Int.toNat x22.1) (x24.1, x24.2.1, x24.2.2.1, x48.1))).length c10, Vi p1_1]) rfl rfl rfl rfl hr51 ?_
 refine inl1 ?_
 have hst := Stp.ev' (ls := [blk (Ad g24 0), [b4], [b6], [b_p0], M]) he51 (mem_flat 2 rfl)
 replace hb_p0 := he51.box hb_p0 (hms.apart 3 2 rfl rfl rfl _ mem1)
 replace hs_p0_0 := hs_p0_0.step hst
 replace hb4 := he51.box hb4 (hms.apart 1 2 rfl rfl rfl _ mem1)
 replace ho8 := ho8.step hst he51 (hms.apart 0 2 rfl rfl rfl)
 replace hms := hms.ev he51
 replace hev := hev.then he51 (fun b hb => .inr (hfr.at 2 rfl b hb))
 replace hb6 := hb51
 refine x_ek ?_
 refine c_ret ?_
 refine r_ret (r_vals [.agg #[.slice (Ad g24 0) (((([] : List (Int × Int × Int × Int)) ++ p1_0).set (Int.toNat x22.1) (x24.1, x24.2.1, x24.2.2.1, x48.1))).length c10, Vi p1_1]] ⟨⟨_, rfl, loadVar_of_reads (reads_boxagg (Mo := []) 0 [.slice (Ad g24 0) (((([] : List (Int × Int × Int × Int)) ++ p1_0).set (Int.toNat x22.1) (x24.1, x24.2.1, x24.2.2.1, x48.1))).length c10, Vi p1_1] tagg25 hb6 nn rfl)⟩, trivial⟩ ?_)
 have hx := some_inj h
 subst hx
 have hmr : MS w51 [blk (Ad g24 0), [b_p0], M] := hms.pick [some 0, some 3, some 4] _ rfl
 have hsu : ∀ x ∈ fl [blk (Ad g24 0), [b_p0], M], x ∈ fl [blk (Ad g24 0), [b4], [b6], [b_p0], M] := pick_sub [some 0, some 3, some 4] _ rfl
 have hfe : FR w.heap.size [blk (Ad g24 0)] := hfr.pick [some 0] _ rfl
 exact ⟨(Ad g24 0), c10, rfl, hev, hb_p0, hmr, hfe, ho8.sub hsu⟩
def gen_Bytes_L4 (p0 : List Int) (p1 : List Int) (s : Int) : Option (Step Int (Unit ⊕ Unit)) :=
match s with
| i_s5_l4 =>
(if (decide (i_s5_l4 < ((p0).length : Int))) = true then
((idx p0 i_s5_l4).bind fun x6 =>
((idx p1 i_s5_l4).bind fun x8 =>
(if (x6 != x8) = true then
some (.done (.inl ()))
else
some (.next (IntKind.i64.wrap (i_s5_l4 + 1))))))
else
some (.done (.inr ())))

def gen_Bytes (p0 : List Int) (p1 : List Int) : Option Bool :=
(if (((p0).length : Int) != ((p1).length : Int)) = true then
some false
else
((loop (gen_Bytes_L4 p0 p1) 0).bind fun d => match d with
| (.inl _) => some false
| (.inr _) => some true))

theorem gen_Bytes_w (a_p0 : Option Addr) (c_p0 : Nat) (p0 : List Int) (a_p1 : Option Addr) (c_p1 : Nat) (p1 : List Int) (r : Bool) (w : World) (M : List Nat) (hms : MS w [M]) (hs_p0 : SlR (eInt .u8) w (fl [M]) a_p0 c_p0 p0) (hs_p1 : SlR (eInt .u8) w (fl [M]) a_p1 c_p1 p1) (h : gen_Bytes p0 p1 = some r) : CallVC Try.prog 24 [.slice a_p0 (p0).length c_p0, .slice a_p1 (p1).length c_p1] w fun v w' => v = .bool r ∧ Ev [] w w' := by
 refine calls_vc hmx Try.func24 (by kernel_rfl) rfl (rs := [.tmp 4]) rfl (by kernel_rfl) (args := [.slice a_p0 (p0).length c_p0, .slice a_p1 (p1).length c_p1]) rfl ?_
 have hev : Ev [] w w := Ev.refl _ _
 have hfr : FR w.heap.size [] := FR.nil _
 refine c_sp ?_
 refine x_pure 1 [(4, .bool false)] _ _ _ (by kernel_rfl) ?_
 refine x_ek ?_
 refine c_seq ?_
 refine c_sp ?_
 refine x_pure 1 [(6, .slice a_p0 (p0).length c_p0)] _ _ _ (by kernel_rfl) ?_
 refine x_len (vs := [.slice a_p0 (p0).length c_p0]) (Vi ((p0).length : Int)) rfl rfl rfl (reads_len tsl46 _ _ _ _ _) ?_
 refine x_pure 1 [(8, .slice a_p1 (p1).length c_p1)] _ _ _ (by kernel_rfl) ?_
 refine x_len (vs := [.slice a_p1 (p1).length c_p1]) (Vi ((p1).length : Int)) rfl rfl rfl (reads_len tsl46 _ _ _ _ _) ?_
 refine x_pure 1 [(10, .bool (((p0).length : Int) != ((p1).length : Int)))] _ _ _ (by kernel_rfl) ?_
 refine x_ek ?_
 refine c_cond (((p0).length : Int) != ((p1).length : Int)) rfl (fun hb => ?_) (fun hb => ?_)
 · replace h := ite_t hb h
   refine c_sp ?_
   refine x_pure 1 [(4, .bool false)] _ _ _ (by kernel_rfl) ?_
   refine x_ek ?_
   refine c_ret ?_
   refine k_then_ret ?_
   refine r_ret (r_vals [.bool false] ⟨rfl, trivial⟩ ?_)
   have hx := some_inj h
   subst hx
   have hmr : MS w [M] := hms.pick [some 0] _ rfl
   have hsu : ∀ x ∈ fl [M], x ∈ fl [M] := pick_sub [some 0] _ rfl
   exact ⟨rfl, hev⟩
 replace h := ite_f hb h
 refine c_skip ?_
 refine k_then ?_
 refine c_seq ?_
 refine c_sp ?_
 refine x_pure 1 [(5, Vi 0)] _ _ _ (by kernel_rfl) ?_
 refine x_ek ?_
 refine c_block ?_
 obtain ⟨d4, hd4, h4⟩ := bind_some h
 obtain ⟨m4, hd4⟩ := loop_some hd4
 refine c_loop (loop_rule hmx (σ := Nat × Int) (fun s => match s with | (_, i_s5_l4) => [(0, .slice a_p0 (p0).length c_p0), (1, .slice a_p1 (p1).length c_p1), (5, Vi i_s5_l4)]) (fun s w' => match s with | (m, i_s5_l4) => loopN (gen_Bytes_L4 p0 p1) m i_s5_l4 = some d4 ∧ Ev [] w w' ∧ MS w' [M] ∧ FR w.heap.size [] ∧ SlR (eInt .u8) w' (fl [M]) a_p0 c_p0 p0 ∧ SlR (eInt .u8) w' (fl [M]) a_p1 c_p1 p1) (fun s => s.1) (m4, 0) ⟨rfl, rfl, rfl, trivial⟩ ⟨hd4, hev, hms, hfr, hs_p0, hs_p1⟩ ?_)
 rintro ⟨m4, i_s5_l4⟩ J wl4 ⟨hn4, hev, hms, hfr, hs_p0, hs_p1⟩
 rcases m4 with _ | m4
 · exact (loopN_zero hn4).elim
 obtain ⟨t4, h, hn4⟩ := bind_some hn4
 refine c_seq ?_
 refine c_sp ?_
 refine x_pure 2 [(11, Vi i_s5_l4), (12, .slice a_p0 (p0).length c_p0)] _ _ _ (by kernel_rfl) ?_
 refine x_len (vs := [.slice a_p0 (p0).length c_p0]) (Vi ((p0).length : Int)) rfl rfl rfl (reads_len tsl46 _ _ _ _ _) ?_
 refine x_pure 1 [(14, .bool (decide (i_s5_l4 < ((p0).length : Int))))] _ _ _ (by kernel_rfl) ?_
 refine x_ek ?_
 refine c_norm [(0, .slice a_p0 (p0).length c_p0), (1, .slice a_p1 (p1).length c_p1), (5, Vi i_s5_l4), (14, .bool (decide (i_s5_l4 < ((p0).length : Int))))] ⟨rfl, rfl, rfl, rfl, trivial⟩ (fun J => ?_)
 refine c_cond (decide (i_s5_l4 < ((p0).length : Int))) rfl (fun hb => ?_) (fun hb => ?_)
 · replace h := ite_t hb h
   refine c_skip ?_
   refine k_then ?_
   refine c_seq ?_
   refine c_block ?_
   refine c_seq ?_
   refine c_drawn [] [(0, false), (1, false), (2, false), (3, false), (4, false), (5, false), (6, false), (7, false), (8, false)] _ (by kernel_rfl) rfl ?_
   have hst := Stp.ext (ls := [M]) (Ev.drew wl4)
   replace hs_p0 := hs_p0.step hst
   replace hs_p1 := hs_p1.step hst
   replace hms := hms.ev (Ev.drew wl4)
   replace hev := hev.ext (Ev.drew wl4)
   refine x_pure 2 [(17, .slice a_p0 (p0).length c_p0), (18, Vi i_s5_l4)] _ _ _ (by kernel_rfl) ?_
   obtain ⟨x6, hx6, h⟩ := bind_some h
   obtain ⟨ad6, cs6, hr6, hc6, hR⟩ := reads_index (Mo := []) tsl46 hs_p0 hx6
   obtain rfl := hR
   refine x_indexAddr (xv := .slice a_p0 (p0).length c_p0) (yv := Vi i_s5_l4) (.pointer (some ad6)) rfl rfl rfl rfl hr6 ?_
   refine x_load (xv := .pointer (some ad6)) (.int .u8 x6) rfl rfl rfl (reads_cell0 tcell5 hc6 (fun _ h => by cases h)) ?_
   refine x_pure 2 [(21, .slice a_p1 (p1).length c_p1), (22, Vi i_s5_l4)] _ _ _ (by kernel_rfl) ?_
   obtain ⟨x8, hx8, h⟩ := bind_some h
   obtain ⟨ad8, cs8, hr8, hc8, hR⟩ := reads_index (Mo := []) tsl46 hs_p1 hx8
   obtain rfl := hR
   refine x_indexAddr (xv := .slice a_p1 (p1).length c_p1) (yv := Vi i_s5_l4) (.pointer (some ad8)) rfl rfl rfl rfl hr8 ?_
   refine x_load (xv := .pointer (some ad8)) (.int .u8 x8) rfl rfl rfl (reads_cell0 tcell5 hc8 (fun _ h => by cases h)) ?_
   refine x_pure 1 [(25, .bool (x6 != x8))] _ _ _ (by kernel_rfl) ?_
   refine x_ek ?_
   refine c_cond (x6 != x8) rfl (fun hb => ?_) (fun hb => ?_)
   · replace h := ite_t hb h
     refine c_sp ?_
     refine x_pure 1 [(4, .bool false)] _ _ _ (by kernel_rfl) ?_
     refine x_ek ?_
     refine c_ret ?_
     refine k_block_ret ?_
     refine k_then_ret ?_
     have hx := some_inj h
     subst hx
     have hy := some_inj hn4
     subst hy
     replace h := h4
     refine k_then_ret ?_
     refine k_block_ret ?_
     refine k_then_ret ?_
     refine r_ret (r_vals [.bool false] ⟨rfl, trivial⟩ ?_)
     have hx := some_inj h
     subst hx
     have hmr : MS (wl4).drew [M] := hms.pick [some 0] _ rfl
     have hsu : ∀ x ∈ fl [M], x ∈ fl [M] := pick_sub [some 0] _ rfl
     exact ⟨rfl, hev⟩
   replace h := ite_f hb h
   refine c_skip ?_
   refine k_block ?_
   refine k_then ?_
   refine c_plain ?_
   refine x_pure 3 [(15, Vi i_s5_l4), (16, Vi (IntKind.i64.wrap (i_s5_l4 + 1))), (5, Vi (IntKind.i64.wrap (i_s5_l4 + 1)))] _ _ _ (by kernel_rfl) ?_
   refine x_end rfl ?_
   have hx := some_inj h
   subst hx
   exact k_then ⟨(m4, IntKind.i64.wrap (i_s5_l4 + 1)), ⟨rfl, rfl, rfl, trivial⟩, ⟨hn4, hev, hms, hfr, hs_p0, hs_p1⟩, Nat.lt_succ_self _⟩
 replace h := ite_f hb h
 refine c_exit ?_
 refine k_then_exit ?_
 have hx := some_inj h
 subst hx
 have hy := some_inj hn4
 subst hy
 replace h := h4
 refine k_then_exit ?_
 refine k_block_in ?_
 refine k_then ?_
 refine c_norm [] trivial (fun J => ?_)
 refine c_sp ?_
 refine x_pure 1 [(4, .bool true)] _ _ _ (by kernel_rfl) ?_
 refine x_ek ?_
 refine c_ret ?_
 refine r_ret (r_vals [.bool true] ⟨rfl, trivial⟩ ?_)
 have hx := some_inj h
 subst hx
 have hmr : MS wl4 [M] := hms.pick [some 0] _ rfl
 have hsu : ∀ x ∈ fl [M], x ∈ fl [M] := pick_sub [some 0] _ rfl
 exact ⟨rfl, hev⟩
end Go.Proofs.Ytcignnfdpgeogaa
