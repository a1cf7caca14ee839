
/- Walks, printed by program: each function returns what the partial function of the same name returns. Conditions: those of each theorem. -/
import Derived.Test.YtcignnfdpgeogaaGT
set_option linter.unusedVariables false
set_option linter.unusedSimpArgs false
set_option maxRecDepth 4000
namespace Go.Proofs.Ytcignnfdpgeogaa
open Go Go.V Go.Proofs
def gen_New (p0 : List Int) : Option ((List Int) × Int) :=
some (p0, 0)

theorem gen_New_w (a_p0 : Option Addr) (c_p0 : Nat) (p0 : List Int) (r : ((List Int) × Int)) (w : World) (M : List Nat) (hms : MS w [M]) (hs_p0 : SlR (eInt .i64) w (fl [M]) a_p0 c_p0 p0) (h : gen_New p0 = some r) : CallVC Try.prog 8 [Vl a_p0 p0 c_p0] w fun v w' => ∃ (b0' : Nat), ∃ (a1' : Option Addr), ∃ (c1' : Nat), v = .pointer (some ⟨b0', 0, none⟩) ∧ Ev [] w w' ∧ MS w' [[b0'], M] ∧ FR w.heap.size [[b0']] ∧ w'.heap[b0']? = some (.cells #[Vl a1' r.1 c1', Vi r.2] 65 (0, 0)) ∧ SlR (eInt .i64) w' (fl [[b0'], M]) a1' c1' r.1 := by
 refine calls_vc hmx Try.func8 (by kernel_rfl) rfl (rs := [.tmp 2]) rfl (by kernel_rfl) (args := [Vl a_p0 p0 c_p0]) rfl ?_
 have hev : Ev [] w w := Ev.refl _ _
 have hfr : FR w.heap.size [] := FR.nil _
 refine c_sp ?_
 refine x_u 1 [(2, .pointer none)] ?_
 refine x_ek ?_
 refine c_sp ?_
 refine x_u 1 [(3, Vl a_p0 p0 c_p0)] ?_
 refine x_build (vs := [(0, Vl a_p0 p0 c_p0)]) (.agg #[Vl a_p0 p0 c_p0, Vi 0]) rfl rfl rfl (fun _ _ => by kernel_rfl) ?_
 refine x_box (xv := .agg #[Vl a_p0 p0 c_p0, Vi 0]) rfl rfl rfl (fun b2 w2 hq2 hb2 he2 hz2 => ?_)
 replace hb2 : w2.heap[b2]? = some (.cells #[Vl a_p0 p0 c_p0, Vi 0] 65 (0, 0)) := hb2
 refine inl1 ?_
 have hst := Stp.box (ls := [M]) he2 hq2
 replace hs_p0 := hs_p0.step hst
 replace hms := hms.box he2 hq2 hb2
 replace hfr := hfr.box hev.size hq2
 replace hev := hev.ext he2
 refine x_u 1 [(2, Vp b2 0)] ?_
 refine x_ek ?_
 refine c_ret ?_
 refine r_ret (r_vals [Vp b2 0] ⟨rfl, trivial⟩ ?_)
 have hx := some_inj h
 subst hx
 have hmr : MS w2 [[b2], M] := hms.pick [some 0, some 1] _ rfl
 have hsu : ∀ x ∈ fl [[b2], M], x ∈ fl [[b2], M] := pick_sub [some 0, some 1] _ rfl
 have hfe : FR w.heap.size [[b2]] := hfr.pick [some 0] _ rfl
 exact ⟨b2, a_p0, c_p0, rfl, hev, hmr, hfe, hb2, hs_p0.sub hsu⟩
def gen_Maker_Next_J3 (p0_1 : Int) (p1 : Int) (x_s5_j3 : Int) : Option (Int × Int) :=
(if p1 ≠ 0 then
(if (decide ((Int.tmod x_s5_j3 p1) < 0)) = true then
some (IntKind.i64.wrap ((Int.tmod x_s5_j3 p1) + p1), IntKind.i64.wrap (p0_1 + 1))
else
some (Int.tmod x_s5_j3 p1, IntKind.i64.wrap (p0_1 + 1)))
else none)

def gen_Maker_Next (p0_0 : List Int) (p0_1 : Int) (p1 : Int) : Option (Int × Int) :=
(if (decide (((p0_0).length : Int) > 0)) = true then
(if ((p0_0).length : Int) ≠ 0 then
((idx p0_0 (Int.tmod p0_1 ((p0_0).length : Int))).bind fun x4 =>
(if ((p0_0).length : Int) ≠ 0 then
gen_Maker_Next_J3 p0_1 p1 (IntKind.i64.wrap (x4 + (IntKind.i64.wrap ((IntKind.i64.wrap (Int.tdiv p0_1 ((p0_0).length : Int))) * 7919))))
else none))
else none)
else
gen_Maker_Next_J3 p0_1 p1 0)

theorem gen_Maker_Next_w (b_p0 : Nat) (a_p0_0 : Option Addr) (c_p0_0 : Nat) (p0_0 : List Int) (p0_1 : Int) (p1 : Int) (r : Int × Int) (w : World) (M : List Nat) (hms : MS w [[b_p0], M]) (hs_p0_0 : SlR (eInt .i64) w (fl [[b_p0], M]) a_p0_0 c_p0_0 p0_0) (hb_p0 : w.heap[b_p0]? = some (.cells #[Vl a_p0_0 p0_0 c_p0_0, Vi p0_1] 65 (0, 0))) (h : gen_Maker_Next p0_0 p0_1 p1 = some r) : CallVC Try.prog 37 [Vp b_p0 0, Vi p1] w fun v w' => v = Vi r.1 ∧ Ev [b_p0] w w' ∧ w'.heap[b_p0]? = some (.cells #[Vl a_p0_0 p0_0 c_p0_0, Vi r.2] 65 (0, 0)) := by
 refine calls_vc hmx Try.func37 (by kernel_rfl) rfl (rs := [.tmp 4]) rfl (by kernel_rfl) (args := [Vp b_p0 0, Vi p1]) rfl ?_
 have hev : Ev [b_p0] w w := Ev.refl _ _
 have hfr : FR w.heap.size [] := FR.nil _
 refine c_sp ?_
 refine x_u 1 [(4, Vi 0)] ?_
 refine x_ek ?_
 refine c_sp ?_
 refine x_u 1 [(5, Vi 0)] ?_
 refine x_ek ?_
 refine c_join (σ := Int) (fun s => match s with | x_s5_j3 => [(0, Vp b_p0 0), (1, Vi p1), (5, Vi x_s5_j3)]) (fun s w' => match s with | x_s5_j3 => gen_Maker_Next_J3 p0_1 p1 x_s5_j3 = some r ∧ Ev [b_p0] w w' ∧ MS w' [[b_p0], M] ∧ FR w.heap.size [] ∧ SlR (eInt .i64) w' (fl [[b_p0], M]) a_p0_0 c_p0_0 p0_0 ∧ w'.heap[b_p0]? = some (.cells #[Vl a_p0_0 p0_0 c_p0_0, Vi p0_1] 65 (0, 0))) ?_ ?_
 · refine c_sp ?_
   refine x_u 2 [(6, Vp b_p0 0), (7, Vp b_p0 0)] ?_
   refine x_fieldAddr (xv := Vp b_p0 0) (Vp b_p0 0) rfl rfl rfl (reads_field tfld65_0 _ _) ?_
   refine x_load (xv := Vp b_p0 0) (Vl a_p0_0 p0_0 c_p0_0) rfl rfl rfl (reads_box tcell22 hb_p0 nn 0 _ rfl) ?_
   refine x_len (vs := [Vl a_p0_0 p0_0 c_p0_0]) (Vi ((p0_0).length : Int)) rfl rfl rfl (reads_len tsl22 _ _ _ _ _) ?_
   refine x_u 1 [(11, .bool (decide (((p0_0).length : Int) > 0)))] ?_
   refine x_ek ?_
   refine c_if (decide (((p0_0).length : Int) > 0)) rfl h (fun h => ?_) (fun h => ?_)
   · refine c_drawn [] [(0, false), (1, false), (2, false), (3, false), (4, false), (5, false), (6, false), (7, false), (8, false), (9, false), (10, false), (11, false), (12, false), (13, false), (14, false), (15, false), (16, false), (17, false), (18, false), (19, false), (20, false), (21, false), (22, false), (23, false), (24, false), (25, false), (26, false), (27, false), (28, false)] _ (by kernel_rfl) rfl ?_
     have hst := Stp.ext (ls := [[b_p0], M]) (Ev.drew w)
     replace hs_p0_0 := hs_p0_0.step hst
     replace hb_p0 := (Ev.drew w).box hb_p0 nn
     replace hms := hms.ev (Ev.drew w)
     replace hev := hev.ext (Ev.drew w)
     refine x_u 2 [(12, Vp b_p0 0), (13, Vp b_p0 0)] ?_
     refine x_fieldAddr (xv := Vp b_p0 0) (Vp b_p0 0) rfl rfl rfl (reads_field tfld65_0 _ _) ?_
     refine x_load (xv := Vp b_p0 0) (Vl a_p0_0 p0_0 c_p0_0) rfl rfl rfl (reads_box tcell22 hb_p0 nn 0 _ rfl) ?_
     refine x_u 2 [(16, Vp b_p0 0), (17, Vp b_p0 0)] ?_
     refine x_fieldAddr (xv := Vp b_p0 0) (Vp b_p0 1) rfl rfl rfl (reads_field tfld65_1 _ _) ?_
     refine x_load (xv := Vp b_p0 1) (Vi p0_1) rfl rfl rfl (reads_box tcell3 hb_p0 nn 1 _ rfl) ?_
     refine x_u 2 [(20, Vp b_p0 0), (21, Vp b_p0 0)] ?_
     refine x_fieldAddr (xv := Vp b_p0 0) (Vp b_p0 0) rfl rfl rfl (reads_field tfld65_0 _ _) ?_
     refine x_load (xv := Vp b_p0 0) (Vl a_p0_0 p0_0 c_p0_0) rfl rfl rfl (reads_box tcell22 hb_p0 nn 0 _ rfl) ?_
     refine x_len (vs := [Vl a_p0_0 p0_0 c_p0_0]) (Vi ((p0_0).length : Int)) rfl rfl rfl (reads_len tsl22 _ _ _ _ _) ?_
     refine x_binop (Vi (Int.tmod p0_1 ((p0_0).length : Int))) (Vi p0_1) (Vi ((p0_0).length : Int)) rfl rfl rfl rfl (vb_rem (guard_l h)) ?_
     replace h := guard_r h
     obtain ⟨x4, hx4, h⟩ := bind_some h
     obtain ⟨ad4, cs4, hr4, hc4, hR⟩ := reads_index (Mo := []) tsl22 hs_p0_0 hx4
     obtain rfl := hR
     refine x_indexAddr (xv := Vl a_p0_0 p0_0 c_p0_0) (yv := Vi (Int.tmod p0_1 ((p0_0).length : Int))) (.pointer (some ad4)) rfl rfl rfl rfl hr4 ?_
     refine x_load (xv := .pointer (some ad4)) (Vi x4) rfl rfl rfl (reads_cell0 tcell3 hc4 (fun _ h => by cases h)) ?_
     refine x_u 2 [(28, Vp b_p0 0), (29, Vp b_p0 0)] ?_
     refine x_fieldAddr (xv := Vp b_p0 0) (Vp b_p0 1) rfl rfl rfl (reads_field tfld65_1 _ _) ?_
     refine x_load (xv := Vp b_p0 1) (Vi p0_1) rfl rfl rfl (reads_box tcell3 hb_p0 nn 1 _ rfl) ?_
     refine x_u 2 [(32, Vp b_p0 0), (33, Vp b_p0 0)] ?_
     refine x_fieldAddr (xv := Vp b_p0 0) (Vp b_p0 0) rfl rfl rfl (reads_field tfld65_0 _ _) ?_
     refine x_load (xv := Vp b_p0 0) (Vl a_p0_0 p0_0 c_p0_0) rfl rfl rfl (reads_box tcell22 hb_p0 nn 0 _ rfl) ?_
     refine x_len (vs := [Vl a_p0_0 p0_0 c_p0_0]) (Vi ((p0_0).length : Int)) rfl rfl rfl (reads_len tsl22 _ _ _ _ _) ?_
     refine x_binop (Vi (IntKind.i64.wrap (Int.tdiv p0_1 ((p0_0).length : Int)))) (Vi p0_1) (Vi ((p0_0).length : Int)) rfl rfl rfl rfl (vb_quo (guard_l h)) ?_
     replace h := guard_r h
     refine x_u 3 [(38, Vi (IntKind.i64.wrap ((IntKind.i64.wrap (Int.tdiv p0_1 ((p0_0).length : Int))) * 7919))), (39, Vi (IntKind.i64.wrap (x4 + (IntKind.i64.wrap ((IntKind.i64.wrap (Int.tdiv p0_1 ((p0_0).length : Int))) * 7919))))), (5, Vi (IntKind.i64.wrap (x4 + (IntKind.i64.wrap ((IntKind.i64.wrap (Int.tdiv p0_1 ((p0_0).length : Int))) * 7919)))))] ?_
     refine x_end rfl ?_
     exact k_then ⟨IntKind.i64.wrap (x4 + (IntKind.i64.wrap ((IntKind.i64.wrap (Int.tdiv p0_1 ((p0_0).length : Int))) * 7919))), ⟨rfl, rfl, rfl, trivial⟩, h, hev, hms, hfr, hs_p0_0, hb_p0⟩
   refine c_skip ?_
   exact k_then ⟨0, ⟨rfl, rfl, rfl, trivial⟩, h, hev, hms, hfr, hs_p0_0, hb_p0⟩
 rintro x_s5_j3 J wj3 ⟨h, hev, hms, hfr, hs_p0_0, hb_p0⟩
 refine c_sp ?_
 refine x_u 2 [(40, Vp b_p0 0), (41, Vp b_p0 0)] ?_
 refine x_fieldAddr (xv := Vp b_p0 0) (Vp b_p0 1) rfl rfl rfl (reads_field tfld65_1 _ _) ?_
 refine x_load (xv := Vp b_p0 1) (Vi p0_1) rfl rfl rfl (reads_box tcell3 hb_p0 nn 1 _ rfl) ?_
 refine x_u 2 [(44, Vi (IntKind.i64.wrap (p0_1 + 1))), (45, Vp b_p0 0)] ?_
 refine x_fieldAddr (xv := Vp b_p0 0) (Vp b_p0 1) rfl rfl rfl (reads_field tfld65_1 _ _) ?_
 obtain ⟨w6, hr6, hb6, he6⟩ := store_box 1 (Vi (IntKind.i64.wrap (p0_1 + 1))) #[Vl a_p0_0 p0_0 c_p0_0, Vi (IntKind.i64.wrap (p0_1 + 1))] tcell3 hb_p0 rfl rfl rfl
 refine x_store w6 (xv := Vp b_p0 1) (yv := Vi (IntKind.i64.wrap (p0_1 + 1))) rfl rfl rfl rfl hr6 ?_
 refine inl1 ?_
 have hst := Stp.ev' (ls := [[b_p0], M]) he6 (mem_flat 0 rfl)
 replace hs_p0_0 := hs_p0_0.step hst
 replace hms := hms.ev he6
 replace hev := hev.then he6 (fun b hb => .inl (by simpa using hb))
 replace hb_p0 := hb6
 refine x_ek ?_
 refine c_norm [(1, Vi p1), (5, Vi x_s5_j3)] ⟨rfl, rfl, trivial⟩ (fun J => ?_)
 refine c_sp ?_
 refine x_u 2 [(47, Vi x_s5_j3), (48, Vi p1)] ?_
 refine x_binop (Vi (Int.tmod x_s5_j3 p1)) (Vi x_s5_j3) (Vi p1) rfl rfl rfl rfl (vb_rem (guard_l h)) ?_
 replace h := guard_r h
 refine x_u 1 [(5, Vi (Int.tmod x_s5_j3 p1))] ?_
 refine x_ek ?_
 refine c_seq ?_
 refine c_sp ?_
 refine x_u 2 [(50, Vi (Int.tmod x_s5_j3 p1)), (51, .bool (decide ((Int.tmod x_s5_j3 p1) < 0)))] ?_
 refine x_ek ?_
 refine c_if (decide ((Int.tmod x_s5_j3 p1) < 0)) rfl h (fun h => ?_) (fun h => ?_)
 · refine c_plain ?_
   refine x_u 4 [(52, Vi (Int.tmod x_s5_j3 p1)), (53, Vi p1), (54, Vi (IntKind.i64.wrap ((Int.tmod x_s5_j3 p1) + p1))), (5, Vi (IntKind.i64.wrap ((Int.tmod x_s5_j3 p1) + p1)))] ?_
   refine x_ek ?_
   refine c_sp ?_
   refine x_u 2 [(55, Vi (IntKind.i64.wrap ((Int.tmod x_s5_j3 p1) + p1))), (4, Vi (IntKind.i64.wrap ((Int.tmod x_s5_j3 p1) + p1)))] ?_
   refine x_ek ?_
   refine c_ret ?_
   refine r_ret (r_vals [Vi (IntKind.i64.wrap ((Int.tmod x_s5_j3 p1) + p1))] ⟨rfl, trivial⟩ ?_)
   have hx := some_inj h
   subst hx
   have hmr : MS w6 [[b_p0], M] := hms.pick [some 0, some 1] _ rfl
   have hsu : ∀ x ∈ fl [[b_p0], M], x ∈ fl [[b_p0], M] := pick_sub [some 0, some 1] _ rfl
   exact ⟨rfl, hev, hb_p0⟩
 refine c_skip ?_
 refine k_then ?_
 refine c_sp ?_
 refine x_u 2 [(55, Vi (Int.tmod x_s5_j3 p1)), (4, Vi (Int.tmod x_s5_j3 p1))] ?_
 refine x_ek ?_
 refine c_ret ?_
 refine r_ret (r_vals [Vi (Int.tmod x_s5_j3 p1)] ⟨rfl, trivial⟩ ?_)
 have hx := some_inj h
 subst hx
 have hmr : MS w6 [[b_p0], M] := hms.pick [some 0, some 1] _ rfl
 have hsu : ∀ x ∈ fl [[b_p0], M], x ∈ fl [[b_p0], M] := pick_sub [some 0, some 1] _ rfl
 exact ⟨rfl, hev, hb_p0⟩
def gen_Maker_Pick (p0_0 : List Int) (p0_1 : Int) (p1 : List Int) : Option (Int × Int) :=
((gen_Maker_Next p0_0 p0_1 ((p1).length : Int)).bind fun x4 =>
((idx p1 x4.1).bind fun x6 =>
some (x6, x4.2)))

theorem gen_Maker_Pick_w (b_p0 : Nat) (a_p0_0 : Option Addr) (c_p0_0 : Nat) (p0_0 : List Int) (p0_1 : Int) (a_p1 : Option Addr) (c_p1 : Nat) (p1 : List Int) (r : Int × Int) (w : World) (M : List Nat) (hms : MS w [[b_p0], M]) (hs_p0_0 : SlR (eInt .i64) w (fl [[b_p0], M]) a_p0_0 c_p0_0 p0_0) (hb_p0 : w.heap[b_p0]? = some (.cells #[Vl a_p0_0 p0_0 c_p0_0, Vi p0_1] 65 (0, 0))) (hs_p1 : SlR (eInt .i64) w (fl [[b_p0], M]) a_p1 c_p1 p1) (h : gen_Maker_Pick p0_0 p0_1 p1 = some r) : CallVC Try.prog 31 [Vp b_p0 0, Vl a_p1 p1 c_p1] w fun v w' => v = Vi r.1 ∧ Ev [b_p0] w w' ∧ w'.heap[b_p0]? = some (.cells #[Vl a_p0_0 p0_0 c_p0_0, Vi r.2] 65 (0, 0)) := by
 refine calls_vc hmx Try.func31 (by kernel_rfl) rfl (rs := [.tmp 4]) rfl (by kernel_rfl) (args := [Vp b_p0 0, Vl a_p1 p1 c_p1]) rfl ?_
 have hev : Ev [b_p0] w w := Ev.refl _ _
 have hfr : FR w.heap.size [] := FR.nil _
 refine c_sp ?_
 refine x_u 1 [(4, Vi 0)] ?_
 refine x_ek ?_
 refine c_sp ?_
 refine x_u 3 [(5, Vl a_p1 p1 c_p1), (6, Vp b_p0 0), (7, Vl a_p1 p1 c_p1)] ?_
 refine x_len (vs := [Vl a_p1 p1 c_p1]) (Vi ((p1).length : Int)) rfl rfl rfl (reads_len tsl22 _ _ _ _ _) ?_
 obtain ⟨x4, hx, h⟩ := bind_some h
 have hpk : MS w ([[b_p0]] ++ [M]) := hms.pick [some 0, some 1] _ rfl
 have hsb0 : ∀ x ∈ fl ([[b_p0]] ++ [M]), x ∈ fl [[b_p0], M] := pick_sub [some 0, some 1] _ rfl
 have hsb : ∀ x ∈ fl ([[b_p0]] ++ [(fl [M])]), x ∈ fl [[b_p0], M] := fun x hx => hsb0 x (fl_unfold x hx)
 have hcall := gen_Maker_Next_w b_p0 a_p0_0 c_p0_0 p0_0 p0_1 ((p1).length : Int) _ w (fl [M]) (hpk.fold (P := [[b_p0]])) (hs_p0_0.sub hsb) hb_p0 hx
 refine x_call 37 #[] #[] [Vp b_p0 0, Vi ((p1).length : Int)] _ rfl rfl rfl rfl hcall ?_
 rintro v w5 ⟨rfl, he5, hp5_0⟩
 clear hcall hx
 refine inl1 ?_
 have hpk2 : MS w ([[b_p0]] ++ [M]) := hms.pick [some 0, some 1] _ rfl
 have hsb2 : ∀ x ∈ fl ([[b_p0]] ++ [M]), x ∈ fl [[b_p0], M] := pick_sub [some 0, some 1] _ rfl
 have hst0 := Stp.call (LS := [[b_p0], M]) (res := []) (par := [[b_p0]]) (R := [M]) he5 (fun b hb => hsb2 b (fl_left' (P := [[b_p0]]) b hb)) (FR.nil _) (NP.init _ _) (fun x hx => hsb2 x (fl_right' (P := [[b_p0]]) x hx))
 have hsn : ∀ x ∈ fl [[b_p0], M], x ∈ fl ([] ++ ([[b_p0]] ++ [M])) := pick_sub [some 0, some 1] _ rfl
 have hst := hst0.res hsn
 replace hs_p0_0 := hs_p0_0.step hst
 replace hs_p1 := hs_p1.step hst
 replace hms := hms.ev he5
 replace hev := hev.then he5 (fun b hb => .inl (by simpa using hb))
 replace hb_p0 := hp5_0
 clear hpk hsb hsb0 hpk2 hsb2 hst0 hsn hst
 obtain ⟨x6, hx6, h⟩ := bind_some h
 obtain ⟨ad6, cs6, hr6, hc6, hR⟩ := reads_index (Mo := []) tsl22 hs_p1 hx6
 obtain rfl := hR
 refine x_indexAddr (xv := Vl a_p1 p1 c_p1) (yv := Vi x4.1) (.pointer (some ad6)) rfl rfl rfl rfl hr6 ?_
 refine x_load (xv := .pointer (some ad6)) (Vi x6) rfl rfl rfl (reads_cell0 tcell3 hc6 (fun _ h => by cases h)) ?_
 refine x_u 1 [(4, Vi x6)] ?_
 refine x_ek ?_
 refine c_ret ?_
 refine r_ret (r_vals [Vi x6] ⟨rfl, trivial⟩ ?_)
 have hx := some_inj h
 subst hx
 have hmr : MS w5 [[b_p0], M] := hms.pick [some 0, some 1] _ rfl
 have hsu : ∀ x ∈ fl [[b_p0], M], x ∈ fl [[b_p0], M] := pick_sub [some 0, some 1] _ rfl
 exact ⟨rfl, hev, hb_p0⟩
def gen_Maker_Items_J15 (p0_0 : List Int) (x5 : Int × Int) (x7 : Int × Int) (d13_l11 : List (Int × Int × Int × Int)) (i_s10_l11 : Int) (e2_j15_1 : Int) (round_s9_j15 : Int) : Option (Step (Int × (List (Int × Int × Int × Int)) × Int × Int) (Int × (List (Int × Int × Int × Int)))) :=
((gen_Maker_Next p0_0 e2_j15_1 (IntKind.i64.wrap (1 + x5.1))).bind fun x21 =>
((gen_Maker_Next p0_0 x21.2 (IntKind.i64.wrap (1 + x7.1))).bind fun x23 =>
((gen_Maker_Pick p0_0 x23.2 ([80, 142, 199, 262])).bind fun x27 =>
(if d13_l11.length + ([(x21.1, x23.1, round_s9_j15, x27.1)] : List (Int × Int × Int × Int)).length ≤ 4294967296 then
some (.next (x27.2, (d13_l11 ++ ([(x21.1, x23.1, round_s9_j15, x27.1)] : List (Int × Int × Int × Int))), round_s9_j15, IntKind.i64.wrap (i_s10_l11 - 1)))
else none))))

def gen_Maker_Items_J16 (p0_0 : List Int) (x5 : Int × Int) (x7 : Int × Int) (d13_l11 : List (Int × Int × Int × Int)) (round_s9_l11 : Int) (i_s10_l11 : Int) (e2_j16_1 : Int) (t33__s33_j16 : Bool) : Option (Step (Int × (List (Int × Int × Int × Int)) × Int × Int) (Int × (List (Int × Int × Int × Int)))) :=
(if t33__s33_j16 = true then
((gen_Maker_Next p0_0 e2_j16_1 3).bind fun x19 =>
gen_Maker_Items_J15 p0_0 x5 x7 d13_l11 i_s10_l11 x19.2 (if 4 < (IntKind.i64.wrap (round_s9_l11 + x19.1)) then 4 else (IntKind.i64.wrap (round_s9_l11 + x19.1))))
else
gen_Maker_Items_J15 p0_0 x5 x7 d13_l11 i_s10_l11 e2_j16_1 round_s9_l11)

def gen_Maker_Items_L11 (p0_0 : List Int) (x3 : Int × Int) (x5 : Int × Int) (x7 : Int × Int) (s : Int × (List (Int × Int × Int × Int)) × Int × Int) : Option (Step (Int × (List (Int × Int × Int × Int)) × Int × Int) (Int × (List (Int × Int × Int × Int)))) :=
match s with
| (e2_l11_1, d13_l11, round_s9_l11, i_s10_l11) =>
(if (decide (i_s10_l11 > 0)) = true then
(if (x3.1 == 0) = true then
((gen_Maker_Next p0_0 e2_l11_1 4).bind fun x17 =>
gen_Maker_Items_J16 p0_0 x5 x7 d13_l11 round_s9_l11 i_s10_l11 x17.2 (x17.1 == 0))
else
gen_Maker_Items_J16 p0_0 x5 x7 d13_l11 round_s9_l11 i_s10_l11 e2_l11_1 false)
else
some (.done (e2_l11_1, d13_l11)))

def gen_Maker_Items (p0_0 : List Int) (p0_1 : Int) (p1 : Int) : Option ((List (Int × Int × Int × Int)) × Int) :=
((gen_Maker_Next p0_0 p0_1 4).bind fun x3 =>
((gen_Maker_Next p0_0 x3.2 3).bind fun x5 =>
((gen_Maker_Next p0_0 x5.2 6).bind fun x7 =>
((gen_Maker_Next p0_0 x7.2 (IntKind.i64.wrap (p1 + 1))).bind fun x9 =>
((loop (gen_Maker_Items_L11 p0_0 x3 x5 x7) (x9.2, ([] : List (Int × Int × Int × Int)), 0, x9.1)).bind fun d => match d with
| (e2_x11_1, d13_x11) => some (d13_x11, e2_x11_1))))))

theorem gen_Maker_Items_w (b_p0 : Nat) (a_p0_0 : Option Addr) (c_p0_0 : Nat) (p0_0 : List Int) (p0_1 : Int) (p1 : Int) (r : (List (Int × Int × Int × Int)) × Int) (w : World) (M : List Nat) (hms : MS w [[b_p0], M]) (hs_p0_0 : SlR (eInt .i64) w (fl [[b_p0], M]) a_p0_0 c_p0_0 p0_0) (hb_p0 : w.heap[b_p0]? = some (.cells #[Vl a_p0_0 p0_0 c_p0_0, Vi p0_1] 65 (0, 0))) (h : gen_Maker_Items p0_0 p0_1 p1 = some r) : CallVC Try.prog 30 [Vp b_p0 0, Vi p1] w fun v w' => ∃ (a0' : Option Addr), ∃ (c0' : Nat), v = Vl a0' r.1 c0' ∧ Ev [b_p0] w w' ∧ w'.heap[b_p0]? = some (.cells #[Vl a_p0_0 p0_0 c_p0_0, Vi r.2] 65 (0, 0)) ∧ MS w' [blk a0', [b_p0], M] ∧ FR w.heap.size [blk a0'] ∧ OwnS (eIt4) 79 w' (fl [blk a0', [b_p0], M]) a0' c0' r.1 := by
 refine calls_vc hmx Try.func30 (by kernel_rfl) rfl (rs := [.tmp 4]) rfl (by kernel_rfl) (args := [Vp b_p0 0, Vi p1]) rfl ?_
 have hev : Ev [b_p0] w w := Ev.refl _ _
 have hfr : FR w.heap.size [] := FR.nil _
 refine c_sp ?_
 refine x_u 1 [(4, .slice none 0 0)] ?_
 refine x_ek ?_
 refine c_sp ?_
 refine x_u 1 [(5, .slice none 0 0)] ?_
 refine x_ek ?_
 refine c_sp ?_
 refine x_u 1 [(11, Vp b_p0 0)] ?_
 obtain ⟨x3, hx, h⟩ := bind_some h
 have hpk : MS w ([[b_p0]] ++ [M]) := hms.pick [some 0, some 1] _ rfl
 have hsb0 : ∀ x ∈ fl ([[b_p0]] ++ [M]), x ∈ fl [[b_p0], M] := pick_sub [some 0, some 1] _ rfl
 have hsb : ∀ x ∈ fl ([[b_p0]] ++ [(fl [M])]), x ∈ fl [[b_p0], M] := fun x hx => hsb0 x (fl_unfold x hx)
 have hcall := gen_Maker_Next_w b_p0 a_p0_0 c_p0_0 p0_0 p0_1 4 _ w (fl [M]) (hpk.fold (P := [[b_p0]])) (hs_p0_0.sub hsb) hb_p0 hx
 refine x_call 37 #[] #[] [Vp b_p0 0, Vi 4] _ rfl rfl rfl rfl hcall ?_
 rintro v w4 ⟨rfl, he4, hp4_0⟩
 clear hcall hx
 refine inl1 ?_
 have hpk2 : MS w ([[b_p0]] ++ [M]) := hms.pick [some 0, some 1] _ rfl
 have hsb2 : ∀ x ∈ fl ([[b_p0]] ++ [M]), x ∈ fl [[b_p0], M] := pick_sub [some 0, some 1] _ rfl
 have hst0 := Stp.call (LS := [[b_p0], M]) (res := []) (par := [[b_p0]]) (R := [M]) he4 (fun b hb => hsb2 b (fl_left' (P := [[b_p0]]) b hb)) (FR.nil _) (NP.init _ _) (fun x hx => hsb2 x (fl_right' (P := [[b_p0]]) x hx))
 have hsn : ∀ x ∈ fl [[b_p0], M], x ∈ fl ([] ++ ([[b_p0]] ++ [M])) := pick_sub [some 0, some 1] _ rfl
 have hst := hst0.res hsn
 replace hs_p0_0 := hs_p0_0.step hst
 replace hms := hms.ev he4
 replace hev := hev.then he4 (fun b hb => .inl (by simpa using hb))
 replace hb_p0 := hp4_0
 clear hpk hsb hsb0 hpk2 hsb2 hst0 hsn hst
 refine x_u 2 [(13, .bool (x3.1 == 0)), (14, Vp b_p0 0)] ?_
 obtain ⟨x5, hx, h⟩ := bind_some h
 have hpk : MS w4 ([[b_p0]] ++ [M]) := hms.pick [some 0, some 1] _ rfl
 have hsb0 : ∀ x ∈ fl ([[b_p0]] ++ [M]), x ∈ fl [[b_p0], M] := pick_sub [some 0, some 1] _ rfl
 have hsb : ∀ x ∈ fl ([[b_p0]] ++ [(fl [M])]), x ∈ fl [[b_p0], M] := fun x hx => hsb0 x (fl_unfold x hx)
 have hcall := gen_Maker_Next_w b_p0 a_p0_0 c_p0_0 p0_0 x3.2 3 _ w4 (fl [M]) (hpk.fold (P := [[b_p0]])) (hs_p0_0.sub hsb) hb_p0 hx
 refine x_call 37 #[] #[] [Vp b_p0 0, Vi 3] _ rfl rfl rfl rfl hcall ?_
 rintro v w6 ⟨rfl, he6, hp6_0⟩
 clear hcall hx
 refine inl1 ?_
 have hpk2 : MS w4 ([[b_p0]] ++ [M]) := hms.pick [some 0, some 1] _ rfl
 have hsb2 : ∀ x ∈ fl ([[b_p0]] ++ [M]), x ∈ fl [[b_p0], M] := pick_sub [some 0, some 1] _ rfl
 have hst0 := Stp.call (LS := [[b_p0], M]) (res := []) (par := [[b_p0]]) (R := [M]) he6 (fun b hb => hsb2 b (fl_left' (P := [[b_p0]]) b hb)) (FR.nil _) (NP.init _ _) (fun x hx => hsb2 x (fl_right' (P := [[b_p0]]) x hx))
 have hsn : ∀ x ∈ fl [[b_p0], M], x ∈ fl ([] ++ ([[b_p0]] ++ [M])) := pick_sub [some 0, some 1] _ rfl
 have hst := hst0.res hsn
 replace hs_p0_0 := hs_p0_0.step hst
 replace hms := hms.ev he6
 replace hev := hev.then he6 (fun b hb => .inl (by simpa using hb))
 replace hb_p0 := hp6_0
 clear hpk hsb hsb0 hpk2 hsb2 hst0 hsn hst
 refine x_u 2 [(16, Vi (IntKind.i64.wrap (1 + x5.1))), (17, Vp b_p0 0)] ?_
 obtain ⟨x7, hx, h⟩ := bind_some h
 have hpk : MS w6 ([[b_p0]] ++ [M]) := hms.pick [some 0, some 1] _ rfl
 have hsb0 : ∀ x ∈ fl ([[b_p0]] ++ [M]), x ∈ fl [[b_p0], M] := pick_sub [some 0, some 1] _ rfl
 have hsb : ∀ x ∈ fl ([[b_p0]] ++ [(fl [M])]), x ∈ fl [[b_p0], M] := fun x hx => hsb0 x (fl_unfold x hx)
 have hcall := gen_Maker_Next_w b_p0 a_p0_0 c_p0_0 p0_0 x5.2 6 _ w6 (fl [M]) (hpk.fold (P := [[b_p0]])) (hs_p0_0.sub hsb) hb_p0 hx
 refine x_call 37 #[] #[] [Vp b_p0 0, Vi 6] _ rfl rfl rfl rfl hcall ?_
 rintro v w8 ⟨rfl, he8, hp8_0⟩
 clear hcall hx
 refine inl1 ?_
 have hpk2 : MS w6 ([[b_p0]] ++ [M]) := hms.pick [some 0, some 1] _ rfl
 have hsb2 : ∀ x ∈ fl ([[b_p0]] ++ [M]), x ∈ fl [[b_p0], M] := pick_sub [some 0, some 1] _ rfl
 have hst0 := Stp.call (LS := [[b_p0], M]) (res := []) (par := [[b_p0]]) (R := [M]) he8 (fun b hb => hsb2 b (fl_left' (P := [[b_p0]]) b hb)) (FR.nil _) (NP.init _ _) (fun x hx => hsb2 x (fl_right' (P := [[b_p0]]) x hx))
 have hsn : ∀ x ∈ fl [[b_p0], M], x ∈ fl ([] ++ ([[b_p0]] ++ [M])) := pick_sub [some 0, some 1] _ rfl
 have hst := hst0.res hsn
 replace hs_p0_0 := hs_p0_0.step hst
 replace hms := hms.ev he8
 replace hev := hev.then he8 (fun b hb => .inl (by simpa using hb))
 replace hb_p0 := hp8_0
 clear hpk hsb hsb0 hpk2 hsb2 hst0 hsn hst
 refine x_u 4 [(19, Vi (IntKind.i64.wrap (1 + x7.1))), (6, .bool (x3.1 == 0)), (7, Vi (IntKind.i64.wrap (1 + x5.1))), (8, Vi (IntKind.i64.wrap (1 + x7.1)))] ?_
 refine x_ek ?_
 refine c_norm [(0, Vp b_p0 0), (1, Vi p1), (5, .slice none 0 0), (6, .bool (x3.1 == 0)), (7, Vi (IntKind.i64.wrap (1 + x5.1))), (8, Vi (IntKind.i64.wrap (1 + x7.1)))] ⟨rfl, rfl, rfl, rfl, rfl, rfl, trivial⟩ (fun J => ?_)
 refine c_sp ?_
 refine x_u 1 [(9, Vi 0)] ?_
 refine x_ek ?_
 refine c_seq ?_
 refine c_sp ?_
 refine x_u 3 [(20, Vp b_p0 0), (21, Vi p1), (22, Vi (IntKind.i64.wrap (p1 + 1)))] ?_
 obtain ⟨x9, hx, h⟩ := bind_some h
 have hpk : MS w8 ([[b_p0]] ++ [M]) := hms.pick [some 0, some 1] _ rfl
 have hsb0 : ∀ x ∈ fl ([[b_p0]] ++ [M]), x ∈ fl [[b_p0], M] := pick_sub [some 0, some 1] _ rfl
 have hsb : ∀ x ∈ fl ([[b_p0]] ++ [(fl [M])]), x ∈ fl [[b_p0], M] := fun x hx => hsb0 x (fl_unfold x hx)
 have hcall := gen_Maker_Next_w b_p0 a_p0_0 c_p0_0 p0_0 x7.2 (IntKind.i64.wrap (p1 + 1)) _ w8 (fl [M]) (hpk.fold (P := [[b_p0]])) (hs_p0_0.sub hsb) hb_p0 hx
 refine x_call 37 #[] #[] [Vp b_p0 0, Vi (IntKind.i64.wrap (p1 + 1))] _ rfl rfl rfl rfl hcall ?_
 rintro v w10 ⟨rfl, he10, hp10_0⟩
 clear hcall hx
 refine inl1 ?_
 have hpk2 : MS w8 ([[b_p0]] ++ [M]) := hms.pick [some 0, some 1] _ rfl
 have hsb2 : ∀ x ∈ fl ([[b_p0]] ++ [M]), x ∈ fl [[b_p0], M] := pick_sub [some 0, some 1] _ rfl
 have hst0 := Stp.call (LS := [[b_p0], M]) (res := []) (par := [[b_p0]]) (R := [M]) he10 (fun b hb => hsb2 b (fl_left' (P := [[b_p0]]) b hb)) (FR.nil _) (NP.init _ _) (fun x hx => hsb2 x (fl_right' (P := [[b_p0]]) x hx))
 have hsn : ∀ x ∈ fl [[b_p0], M], x ∈ fl ([] ++ ([[b_p0]] ++ [M])) := pick_sub [some 0, some 1] _ rfl
 have hst := hst0.res hsn
 replace hs_p0_0 := hs_p0_0.step hst
 replace hms := hms.ev he10
 replace hev := hev.then he10 (fun b hb => .inl (by simpa using hb))
 replace hb_p0 := hp10_0
 clear hpk hsb hsb0 hpk2 hsb2 hst0 hsn hst
 refine x_u 1 [(10, Vi x9.1)] ?_
 refine x_ek ?_
 refine c_block ?_
 have hst := Stp.push (ls := [[b_p0], M]) (l := blk none) (Ev.refl [] w10) (fun _ h => by cases h) (fun _ h => by cases h)
 replace hs_p0_0 := hs_p0_0.step hst
 replace hb_p0 := (Ev.refl [] _).box hb_p0 nn
 replace hms := hms.push (l := blk none) (Ev.refl [] _) (fun _ h => by cases h)
 replace hfr := hfr.push (l := blk none) (fun _ h => by cases h)
 have ho12 := OwnS.nil (eIt4) 79 w10 (fl [blk none, [b_p0], M])
 obtain ⟨d11, hd11, h11⟩ := bind_some h
 obtain ⟨m11, hd11⟩ := loop_some hd11
 refine c_loop (loop_rule hmx (σ := Nat × Int × (List (Int × Int × Int × Int)) × Int × Int × Option Addr × Nat) (fun s => match s with | (_, e2_l11_1, d13_l11, round_s9_l11, i_s10_l11, a13_l11, c13_l11) => [(0, Vp b_p0 0), (5, Vl a13_l11 d13_l11 c13_l11), (6, .bool (x3.1 == 0)), (7, Vi (IntKind.i64.wrap (1 + x5.1))), (8, Vi (IntKind.i64.wrap (1 + x7.1))), (9, Vi round_s9_l11), (10, Vi i_s10_l11)]) (fun s w' => match s with | (m, e2_l11_1, d13_l11, round_s9_l11, i_s10_l11, a13_l11, c13_l11) => loopN (gen_Maker_Items_L11 p0_0 x3 x5 x7) m (e2_l11_1, d13_l11, round_s9_l11, i_s10_l11) = some d11 ∧ Ev [b_p0] w w' ∧ MS w' [blk a13_l11, [b_p0], M] ∧ FR w.heap.size [blk a13_l11] ∧ SlR (eInt .i64) w' (fl [blk a13_l11, [b_p0], M]) a_p0_0 c_p0_0 p0_0 ∧ w'.heap[b_p0]? = some (.cells #[Vl a_p0_0 p0_0 c_p0_0, Vi e2_l11_1] 65 (0, 0)) ∧ OwnS (eIt4) 79 w' (fl [blk a13_l11, [b_p0], M]) a13_l11 c13_l11 d13_l11) (fun s => s.1) (m11, x9.2, ([] : List (Int × Int × Int × Int)), 0, x9.1, none, 0) ⟨rfl, rfl, rfl, rfl, rfl, rfl, rfl, trivial⟩ ⟨hd11, hev, hms, hfr, hs_p0_0, hb_p0, ho12⟩ ?_)
 rintro ⟨m11, e2_l11_1, d13_l11, round_s9_l11, i_s10_l11, a13_l11, c13_l11⟩ J wl11 ⟨hn11, hev, hms, hfr, hs_p0_0, hb_p0, hj13_l11⟩
 rcases m11 with _ | m11
 · exact (loopN_zero hn11).elim
 obtain ⟨t11, h, hn11⟩ := bind_some hn11
 refine c_seq ?_
 refine c_sp ?_
 refine x_u 2 [(24, Vi i_s10_l11), (25, .bool (decide (i_s10_l11 > 0)))] ?_
 refine x_ek ?_
 refine c_norm [(0, Vp b_p0 0), (5, Vl a13_l11 d13_l11 c13_l11), (6, .bool (x3.1 == 0)), (7, Vi (IntKind.i64.wrap (1 + x5.1))), (8, Vi (IntKind.i64.wrap (1 + x7.1))), (9, Vi round_s9_l11), (10, Vi i_s10_l11), (25, .bool (decide (i_s10_l11 > 0)))] ⟨rfl, rfl, rfl, rfl, rfl, rfl, rfl, rfl, trivial⟩ (fun J => ?_)
 refine c_if (decide (i_s10_l11 > 0)) rfl h (fun h => ?_) (fun h => ?_)
 · refine c_skip ?_
   refine k_then ?_
   refine c_seq ?_
   refine c_block ?_
   refine c_join (σ := Int × Int) (fun s => match s with | (e2_j15_1, round_s9_j15) => [(0, Vp b_p0 0), (5, Vl a13_l11 d13_l11 c13_l11), (6, .bool (x3.1 == 0)), (7, Vi (IntKind.i64.wrap (1 + x5.1))), (8, Vi (IntKind.i64.wrap (1 + x7.1))), (9, Vi round_s9_j15), (10, Vi i_s10_l11)]) (fun s w' => match s with | (e2_j15_1, round_s9_j15) => gen_Maker_Items_J15 p0_0 x5 x7 d13_l11 i_s10_l11 e2_j15_1 round_s9_j15 = some t11 ∧ Ev [b_p0] w w' ∧ MS w' [blk a13_l11, [b_p0], M] ∧ FR w.heap.size [blk a13_l11] ∧ SlR (eInt .i64) w' (fl [blk a13_l11, [b_p0], M]) a_p0_0 c_p0_0 p0_0 ∧ w'.heap[b_p0]? = some (.cells #[Vl a_p0_0 p0_0 c_p0_0, Vi e2_j15_1] 65 (0, 0)) ∧ OwnS (eIt4) 79 w' (fl [blk a13_l11, [b_p0], M]) a13_l11 c13_l11 d13_l11) ?_ ?_
   · refine c_join (σ := Int × Bool) (fun s => match s with | (e2_j16_1, t33__s33_j16) => [(0, Vp b_p0 0), (5, Vl a13_l11 d13_l11 c13_l11), (6, .bool (x3.1 == 0)), (7, Vi (IntKind.i64.wrap (1 + x5.1))), (8, Vi (IntKind.i64.wrap (1 + x7.1))), (9, Vi round_s9_l11), (10, Vi i_s10_l11), (33, .bool t33__s33_j16)]) (fun s w' => match s with | (e2_j16_1, t33__s33_j16) => gen_Maker_Items_J16 p0_0 x5 x7 d13_l11 round_s9_l11 i_s10_l11 e2_j16_1 t33__s33_j16 = some t11 ∧ Ev [b_p0] w w' ∧ MS w' [blk a13_l11, [b_p0], M] ∧ FR w.heap.size [blk a13_l11] ∧ SlR (eInt .i64) w' (fl [blk a13_l11, [b_p0], M]) a_p0_0 c_p0_0 p0_0 ∧ w'.heap[b_p0]? = some (.cells #[Vl a_p0_0 p0_0 c_p0_0, Vi e2_j16_1] 65 (0, 0)) ∧ OwnS (eIt4) 79 w' (fl [blk a13_l11, [b_p0], M]) a13_l11 c13_l11 d13_l11) ?_ ?_
     · refine c_plain ?_
       refine x_u 2 [(28, .bool (x3.1 == 0)), (29, .bool (x3.1 == 0))] ?_
       refine x_if 29 (x3.1 == 0) rfl h (fun h => ?_) (fun h => ?_)
       · refine x_u 1 [(30, Vp b_p0 0)] ?_
         obtain ⟨x17, hx, h⟩ := bind_some h
         have hpk : MS wl11 ([[b_p0]] ++ [blk a13_l11, M]) := hms.pick [some 1, some 0, some 2] _ rfl
         have hsb0 : ∀ x ∈ fl ([[b_p0]] ++ [blk a13_l11, M]), x ∈ fl [blk a13_l11, [b_p0], M] := pick_sub [some 1, some 0, some 2] _ rfl
         have hsb : ∀ x ∈ fl ([[b_p0]] ++ [(fl [blk a13_l11, M])]), x ∈ fl [blk a13_l11, [b_p0], M] := fun x hx => hsb0 x (fl_unfold x hx)
         have hcall := gen_Maker_Next_w b_p0 a_p0_0 c_p0_0 p0_0 e2_l11_1 4 _ wl11 (fl [blk a13_l11, M]) (hpk.fold (P := [[b_p0]])) (hs_p0_0.sub hsb) hb_p0 hx
         refine x_call 37 #[] #[] [Vp b_p0 0, Vi 4] _ rfl rfl rfl rfl hcall ?_
         rintro v w18 ⟨rfl, he18, hp18_0⟩
         clear hcall hx
         refine inl1 ?_
         have hpk2 : MS wl11 ([[b_p0]] ++ [blk a13_l11, M]) := hms.pick [some 1, some 0, some 2] _ rfl
         have hsb2 : ∀ x ∈ fl ([[b_p0]] ++ [blk a13_l11, M]), x ∈ fl [blk a13_l11, [b_p0], M] := pick_sub [some 1, some 0, some 2] _ rfl
         have hst0 := Stp.call (LS := [blk a13_l11, [b_p0], M]) (res := []) (par := [[b_p0]]) (R := [blk a13_l11, M]) he18 (fun b hb => hsb2 b (fl_left' (P := [[b_p0]]) b hb)) (FR.nil _) (NP.init _ _) (fun x hx => hsb2 x (fl_right' (P := [[b_p0]]) x hx))
         have hsn : ∀ x ∈ fl [blk a13_l11, [b_p0], M], x ∈ fl ([] ++ ([[b_p0]] ++ [blk a13_l11, M])) := pick_sub [some 1, some 0, some 2] _ rfl
         have hst := hst0.res hsn
         replace hs_p0_0 := hs_p0_0.step hst
         replace hj13_l11 := hj13_l11.step hst he18 (MS.outs (P := [[b_p0]]) hpk2 0 rfl)
         replace hms := hms.ev he18
         replace hev := hev.then he18 (fun b hb => .inl (by simpa using hb))
         replace hb_p0 := hp18_0
         clear hpk hsb hsb0 hpk2 hsb2 hst0 hsn hst
         refine x_u 2 [(32, .bool (x17.1 == 0)), (33, .bool (x17.1 == 0))] ?_
         refine x_end rfl ?_
         exact k_then ⟨(x17.2, x17.1 == 0), ⟨rfl, rfl, rfl, rfl, rfl, rfl, rfl, rfl, trivial⟩, h, hev, hms, hfr, hs_p0_0, hb_p0, hj13_l11⟩
       refine x_u 4 [(30, undef), (31, undef), (32, undef), (33, .bool false)] ?_
       refine x_end rfl ?_
       exact k_then ⟨(e2_l11_1, false), ⟨rfl, rfl, rfl, rfl, rfl, rfl, rfl, rfl, trivial⟩, h, hev, hms, hfr, hs_p0_0, hb_p0, hj13_l11⟩
     rintro ⟨e2_j16_1, t33__s33_j16⟩ J wj16 ⟨h, hev, hms, hfr, hs_p0_0, hb_p0, hj13_l11⟩
     refine c_if t33__s33_j16 rfl h (fun h => ?_) (fun h => ?_)
     · refine c_plain ?_
       refine x_u 2 [(34, Vi round_s9_l11), (35, Vp b_p0 0)] ?_
       obtain ⟨x19, hx, h⟩ := bind_some h
       have hpk : MS wj16 ([[b_p0]] ++ [blk a13_l11, M]) := hms.pick [some 1, some 0, some 2] _ rfl
       have hsb0 : ∀ x ∈ fl ([[b_p0]] ++ [blk a13_l11, M]), x ∈ fl [blk a13_l11, [b_p0], M] := pick_sub [some 1, some 0, some 2] _ rfl
       have hsb : ∀ x ∈ fl ([[b_p0]] ++ [(fl [blk a13_l11, M])]), x ∈ fl [blk a13_l11, [b_p0], M] := fun x hx => hsb0 x (fl_unfold x hx)
       have hcall := gen_Maker_Next_w b_p0 a_p0_0 c_p0_0 p0_0 e2_j16_1 3 _ wj16 (fl [blk a13_l11, M]) (hpk.fold (P := [[b_p0]])) (hs_p0_0.sub hsb) hb_p0 hx
       refine x_call 37 #[] #[] [Vp b_p0 0, Vi 3] _ rfl rfl rfl rfl hcall ?_
       rintro v w20 ⟨rfl, he20, hp20_0⟩
       clear hcall hx
       refine inl1 ?_
       have hpk2 : MS wj16 ([[b_p0]] ++ [blk a13_l11, M]) := hms.pick [some 1, some 0, some 2] _ rfl
       have hsb2 : ∀ x ∈ fl ([[b_p0]] ++ [blk a13_l11, M]), x ∈ fl [blk a13_l11, [b_p0], M] := pick_sub [some 1, some 0, some 2] _ rfl
       have hst0 := Stp.call (LS := [blk a13_l11, [b_p0], M]) (res := []) (par := [[b_p0]]) (R := [blk a13_l11, M]) he20 (fun b hb => hsb2 b (fl_left' (P := [[b_p0]]) b hb)) (FR.nil _) (NP.init _ _) (fun x hx => hsb2 x (fl_right' (P := [[b_p0]]) x hx))
       have hsn : ∀ x ∈ fl [blk a13_l11, [b_p0], M], x ∈ fl ([] ++ ([[b_p0]] ++ [blk a13_l11, M])) := pick_sub [some 1, some 0, some 2] _ rfl
       have hst := hst0.res hsn
       replace hs_p0_0 := hs_p0_0.step hst
       replace hj13_l11 := hj13_l11.step hst he20 (MS.outs (P := [[b_p0]]) hpk2 0 rfl)
       replace hms := hms.ev he20
       replace hev := hev.then he20 (fun b hb => .inl (by simpa using hb))
       replace hb_p0 := hp20_0
       clear hpk hsb hsb0 hpk2 hsb2 hst0 hsn hst
       refine x_u 1 [(37, Vi (IntKind.i64.wrap (round_s9_l11 + x19.1)))] ?_
       refine x_min (vs := [Vi (IntKind.i64.wrap (round_s9_l11 + x19.1)), Vi 4]) (Vi (if 4 < (IntKind.i64.wrap (round_s9_l11 + x19.1)) then 4 else (IntKind.i64.wrap (round_s9_l11 + x19.1)))) rfl rfl rfl (fun _ _ => rfl) ?_
       refine x_u 1 [(9, Vi (if 4 < (IntKind.i64.wrap (round_s9_l11 + x19.1)) then 4 else (IntKind.i64.wrap (round_s9_l11 + x19.1))))] ?_
       refine x_end rfl ?_
       exact k_then ⟨(x19.2, if 4 < (IntKind.i64.wrap (round_s9_l11 + x19.1)) then 4 else (IntKind.i64.wrap (round_s9_l11 + x19.1))), ⟨rfl, rfl, rfl, rfl, rfl, rfl, rfl, trivial⟩, h, hev, hms, hfr, hs_p0_0, hb_p0, hj13_l11⟩
     refine c_skip ?_
     exact k_then ⟨(e2_j16_1, round_s9_l11), ⟨rfl, rfl, rfl, rfl, rfl, rfl, rfl, trivial⟩, h, hev, hms, hfr, hs_p0_0, hb_p0, hj13_l11⟩
   rintro ⟨e2_j15_1, round_s9_j15⟩ J wj15 ⟨h, hev, hms, hfr, hs_p0_0, hb_p0, hj13_l11⟩
   refine c_plain ?_
   refine x_u 3 [(39, Vl a13_l11 d13_l11 c13_l11), (40, Vp b_p0 0), (41, Vi (IntKind.i64.wrap (1 + x5.1)))] ?_
   obtain ⟨x21, hx, h⟩ := bind_some h
   have hpk : MS wj15 ([[b_p0]] ++ [blk a13_l11, M]) := hms.pick [some 1, some 0, some 2] _ rfl
   have hsb0 : ∀ x ∈ fl ([[b_p0]] ++ [blk a13_l11, M]), x ∈ fl [blk a13_l11, [b_p0], M] := pick_sub [some 1, some 0, some 2] _ rfl
   have hsb : ∀ x ∈ fl ([[b_p0]] ++ [(fl [blk a13_l11, M])]), x ∈ fl [blk a13_l11, [b_p0], M] := fun x hx => hsb0 x (fl_unfold x hx)
   have hcall := gen_Maker_Next_w b_p0 a_p0_0 c_p0_0 p0_0 e2_j15_1 (IntKind.i64.wrap (1 + x5.1)) _ wj15 (fl [blk a13_l11, M]) (hpk.fold (P := [[b_p0]])) (hs_p0_0.sub hsb) hb_p0 hx
   refine x_call 37 #[] #[] [Vp b_p0 0, Vi (IntKind.i64.wrap (1 + x5.1))] _ rfl rfl rfl rfl hcall ?_
   rintro v w22 ⟨rfl, he22, hp22_0⟩
   clear hcall hx
   refine inl1 ?_
   have hpk2 : MS wj15 ([[b_p0]] ++ [blk a13_l11, M]) := hms.pick [some 1, some 0, some 2] _ rfl
   have hsb2 : ∀ x ∈ fl ([[b_p0]] ++ [blk a13_l11, M]), x ∈ fl [blk a13_l11, [b_p0], M] := pick_sub [some 1, some 0, some 2] _ rfl
   have hst0 := Stp.call (LS := [blk a13_l11, [b_p0], M]) (res := []) (par := [[b_p0]]) (R := [blk a13_l11, M]) he22 (fun b hb => hsb2 b (fl_left' (P := [[b_p0]]) b hb)) (FR.nil _) (NP.init _ _) (fun x hx => hsb2 x (fl_right' (P := [[b_p0]]) x hx))
   have hsn : ∀ x ∈ fl [blk a13_l11, [b_p0], M], x ∈ fl ([] ++ ([[b_p0]] ++ [blk a13_l11, M])) := pick_sub [some 1, some 0, some 2] _ rfl
   have hst := hst0.res hsn
   replace hs_p0_0 := hs_p0_0.step hst
   replace hj13_l11 := hj13_l11.step hst he22 (MS.outs (P := [[b_p0]]) hpk2 0 rfl)
   replace hms := hms.ev he22
   replace hev := hev.then he22 (fun b hb => .inl (by simpa using hb))
   replace hb_p0 := hp22_0
   clear hpk hsb hsb0 hpk2 hsb2 hst0 hsn hst
   refine x_u 2 [(43, Vp b_p0 0), (44, Vi (IntKind.i64.wrap (1 + x7.1)))] ?_
   obtain ⟨x23, hx, h⟩ := bind_some h
   have hpk : MS w22 ([[b_p0]] ++ [blk a13_l11, M]) := hms.pick [some 1, some 0, some 2] _ rfl
   have hsb0 : ∀ x ∈ fl ([[b_p0]] ++ [blk a13_l11, M]), x ∈ fl [blk a13_l11, [b_p0], M] := pick_sub [some 1, some 0, some 2] _ rfl
   have hsb : ∀ x ∈ fl ([[b_p0]] ++ [(fl [blk a13_l11, M])]), x ∈ fl [blk a13_l11, [b_p0], M] := fun x hx => hsb0 x (fl_unfold x hx)
   have hcall := gen_Maker_Next_w b_p0 a_p0_0 c_p0_0 p0_0 x21.2 (IntKind.i64.wrap (1 + x7.1)) _ w22 (fl [blk a13_l11, M]) (hpk.fold (P := [[b_p0]])) (hs_p0_0.sub hsb) hb_p0 hx
   refine x_call 37 #[] #[] [Vp b_p0 0, Vi (IntKind.i64.wrap (1 + x7.1))] _ rfl rfl rfl rfl hcall ?_
   rintro v w24 ⟨rfl, he24, hp24_0⟩
   clear hcall hx
   refine inl1 ?_
   have hpk2 : MS w22 ([[b_p0]] ++ [blk a13_l11, M]) := hms.pick [some 1, some 0, some 2] _ rfl
   have hsb2 : ∀ x ∈ fl ([[b_p0]] ++ [blk a13_l11, M]), x ∈ fl [blk a13_l11, [b_p0], M] := pick_sub [some 1, some 0, some 2] _ rfl
   have hst0 := Stp.call (LS := [blk a13_l11, [b_p0], M]) (res := []) (par := [[b_p0]]) (R := [blk a13_l11, M]) he24 (fun b hb => hsb2 b (fl_left' (P := [[b_p0]]) b hb)) (FR.nil _) (NP.init _ _) (fun x hx => hsb2 x (fl_right' (P := [[b_p0]]) x hx))
   have hsn : ∀ x ∈ fl [blk a13_l11, [b_p0], M], x ∈ fl ([] ++ ([[b_p0]] ++ [blk a13_l11, M])) := pick_sub [some 1, some 0, some 2] _ rfl
   have hst := hst0.res hsn
   replace hs_p0_0 := hs_p0_0.step hst
   replace hj13_l11 := hj13_l11.step hst he24 (MS.outs (P := [[b_p0]]) hpk2 0 rfl)
   replace hms := hms.ev he24
   replace hev := hev.then he24 (fun b hb => .inl (by simpa using hb))
   replace hb_p0 := hp24_0
   clear hpk hsb hsb0 hpk2 hsb2 hst0 hsn hst
   refine x_u 2 [(46, Vi round_s9_j15), (47, Vp b_p0 0)] ?_
   refine x_buildSlice (vs := [(0, Vi 80), (1, Vi 142), (2, Vi 199), (3, Vi 262)]) #[Vi 80, Vi 142, Vi 199, Vi 262] 3 rfl rfl rfl (by kernel_rfl) (fun b25 w25 hq25 hb25 he25 hz25 => ?_)
   refine inl1 ?_
   have hms0 := hms
   have hst := Stp.ext (ls := [blk a13_l11, [b_p0], M]) he25
   replace hb_p0 := he25.box hb_p0 nn
   replace hs_p0_0 := hs_p0_0.step hst
   replace hj13_l11 := hj13_l11.step hst he25 nn2
   replace hms := hms.ev he25
   replace hev := hev.ext he25
   have hs25 : SlR (eInt .i64) w25 (fl [blk a13_l11, [b_p0], M]) (Ad b25 0) 4 ([80, 142, 199, 262]) := ro_of_box hms0 hq25 hb25 rfl rfl (cells_at (cs := [Vi 80, Vi 142, Vi 199, Vi 262]) (CellsOf.cons (c := [Vi 80]) rfl (CellsOf.cons (c := [Vi 142]) rfl (CellsOf.cons (c := [Vi 199]) rfl (CellsOf.cons (c := [Vi 262]) rfl CellsOf.nil)))))
   clear hb25 hms0
   obtain ⟨x27, hx, h⟩ := bind_some h
   have hpk : MS w25 ([[b_p0]] ++ [blk a13_l11, M]) := hms.pick [some 1, some 0, some 2] _ rfl
   have hsb0 : ∀ x ∈ fl ([[b_p0]] ++ [blk a13_l11, M]), x ∈ fl [blk a13_l11, [b_p0], M] := pick_sub [some 1, some 0, some 2] _ rfl
   have hsb : ∀ x ∈ fl ([[b_p0]] ++ [(fl [blk a13_l11, M])]), x ∈ fl [blk a13_l11, [b_p0], M] := fun x hx => hsb0 x (fl_unfold x hx)
   have hcall := gen_Maker_Pick_w b_p0 a_p0_0 c_p0_0 p0_0 x23.2 (Ad b25 0) 4 ([80, 142, 199, 262]) _ w25 (fl [blk a13_l11, M]) (hpk.fold (P := [[b_p0]])) (hs_p0_0.sub hsb) hb_p0 (hs25.sub hsb) hx
   refine x_call 31 #[] #[] [Vp b_p0 0, .slice (Ad b25 0) ([80, 142, 199, 262]).length 4] _ rfl rfl rfl rfl hcall ?_
   rintro v w28 ⟨rfl, he28, hp28_0⟩
   clear hcall hx
   refine inl1 ?_
   have hpk2 : MS w25 ([[b_p0]] ++ [blk a13_l11, M]) := hms.pick [some 1, some 0, some 2] _ rfl
   have hsb2 : ∀ x ∈ fl ([[b_p0]] ++ [blk a13_l11, M]), x ∈ fl [blk a13_l11, [b_p0], M] := pick_sub [some 1, some 0, some 2] _ rfl
   have hst0 := Stp.call (LS := [blk a13_l11, [b_p0], M]) (res := []) (par := [[b_p0]]) (R := [blk a13_l11, M]) he28 (fun b hb => hsb2 b (fl_left' (P := [[b_p0]]) b hb)) (FR.nil _) (NP.init _ _) (fun x hx => hsb2 x (fl_right' (P := [[b_p0]]) x hx))
   have hsn : ∀ x ∈ fl [blk a13_l11, [b_p0], M], x ∈ fl ([] ++ ([[b_p0]] ++ [blk a13_l11, M])) := pick_sub [some 1, some 0, some 2] _ rfl
   have hst := hst0.res hsn
   replace hs_p0_0 := hs_p0_0.step hst
   replace hj13_l11 := hj13_l11.step hst he28 (MS.outs (P := [[b_p0]]) hpk2 0 rfl)
   replace hs25 := hs25.step hst
   replace hms := hms.ev he28
   replace hev := hev.then he28 (fun b hb => .inl (by simpa using hb))
   replace hb_p0 := hp28_0
   clear hpk hsb hsb0 hpk2 hsb2 hst0 hsn hst
   refine x_build (vs := [(0, Vi x21.1), (1, Vi x23.1), (2, Vi round_s9_j15), (3, Vi x27.1)]) (.agg #[Vi x21.1, Vi x23.1, Vi round_s9_j15, Vi x27.1]) rfl rfl rfl (fun _ _ => by kernel_rfl) ?_
   refine x_buildSlice (vs := [(0, .agg #[Vi x21.1, Vi x23.1, Vi round_s9_j15, Vi x27.1])]) #[Vi x21.1, Vi x23.1, Vi round_s9_j15, Vi x27.1] 79 rfl rfl rfl (by kernel_rfl) (fun b29 w29 hq29 hb29 he29 hz29 => ?_)
   refine inl1 ?_
   have hms0 := hms
   have hst := Stp.ext (ls := [blk a13_l11, [b_p0], M]) he29
   replace hb_p0 := he29.box hb_p0 nn
   replace hs_p0_0 := hs_p0_0.step hst
   replace hj13_l11 := hj13_l11.step hst he29 nn2
   replace hs25 := hs25.step hst
   replace hms := hms.ev he29
   replace hev := hev.ext he29
   have hs29 : SlR (eIt4) w29 (fl [blk a13_l11, [b_p0], M]) (Ad b29 0) 1 ([(x21.1, x23.1, round_s9_j15, x27.1)] : List (Int × Int × Int × Int)) := ro_of_box hms0 hq29 hb29 rfl rfl (cells_at (cs := [Vi x21.1, Vi x23.1, Vi round_s9_j15, Vi x27.1]) (CellsOf.cons (c := [Vi x21.1, Vi x23.1, Vi round_s9_j15, Vi x27.1]) ⟨[Vi x21.1], [Vi x23.1, Vi round_s9_j15, Vi x27.1], rfl, rfl, ⟨[Vi x23.1], [Vi round_s9_j15, Vi x27.1], rfl, rfl, ⟨[Vi round_s9_j15], [Vi x27.1], rfl, rfl, rfl⟩⟩⟩ CellsOf.nil))
   clear hb29 hms0
   have hg := guard_l h
   replace h := guard_r h
   obtain ⟨a31, c31, w31, hr31, he31, hn31, hm31, hw31⟩ := own_appendN tel23 23 hj13_l11 (mem_flat 0 rfl) hs29 hg
   refine x_builtin (vs := [Vl a13_l11 d13_l11 c13_l11, .slice (Ad b29 0) (([(x21.1, x23.1, round_s9_j15, x27.1)] : List (Int × Int × Int × Int))).length 1]) _ w31 rfl rfl rfl rfl (run_value _ _ _ _ hr31) ?_
   refine inl1 ?_
   have hst : Stp (fl [blk a13_l11, [b_p0], M]) w29 (fl [blk a31, [b_p0], M]) w31 := Stp.upd 0 he31 rfl (fun b hb => (hn31 b hb).1)
   replace hb_p0 := he31.box hb_p0 (hms.apart 1 0 rfl rfl rfl _ mem1)
   replace hs_p0_0 := hs_p0_0.step hst
   replace hs25 := hs25.step hst
   replace hs29 := hs29.step hst
   replace hms : MS w31 [blk a31, [b_p0], M] := hms.upd 0 he31 rfl hn31
   have hfr2 : FR w.heap.size [blk a31] := hfr.upd 0 rfl hev.size (fun b hb => (hn31 b hb).1)
   replace hev := hev.then he31 (fun b hb => .inr (hfr.at 0 rfl b hb))
   replace hfr := hfr2
   clear hfr2
   replace hj13_l11 := hw31 (fl [blk a31, [b_p0], M]) hst.new
   clear hw31
   refine x_u 1 [(5, .slice a31 ((d13_l11 ++ ([(x21.1, x23.1, round_s9_j15, x27.1)] : List (Int × Int × Int × Int)))).length c31)] ?_
   refine x_end rfl ?_
   refine k_block ?_
   refine k_then ?_
   refine c_norm [(0, Vp b_p0 0), (5, .slice a31 ((d13_l11 ++ ([(x21.1, x23.1, round_s9_j15, x27.1)] : List (Int × Int × Int × Int)))).length c31), (6, .bool (x3.1 == 0)), (7, Vi (IntKind.i64.wrap (1 + x5.1))), (8, Vi (IntKind.i64.wrap (1 + x7.1))), (9, Vi round_s9_j15), (10, Vi i_s10_l11)] ⟨rfl, rfl, rfl, rfl, rfl, rfl, rfl, trivial⟩ (fun J => ?_)
   refine c_plain ?_
   refine x_u 3 [(26, Vi i_s10_l11), (27, Vi (IntKind.i64.wrap (i_s10_l11 - 1))), (10, Vi (IntKind.i64.wrap (i_s10_l11 - 1)))] ?_
   refine x_end rfl ?_
   have hx := some_inj h
   subst hx
   exact k_then ⟨(m11, x27.2, (d13_l11 ++ ([(x21.1, x23.1, round_s9_j15, x27.1)] : List (Int × Int × Int × Int))), round_s9_j15, IntKind.i64.wrap (i_s10_l11 - 1), a31, c31), ⟨rfl, rfl, rfl, rfl, rfl, rfl, rfl, trivial⟩, ⟨hn11, hev, hms, hfr, hs_p0_0, hb_p0, hj13_l11⟩, Nat.lt_succ_self _⟩
 refine c_exit ?_
 refine k_then_exit ?_
 have hx := some_inj h
 subst hx
 have hy := some_inj hn11
 subst hy
 replace h := h11
 refine k_then_exit ?_
 refine k_block_in ?_
 refine k_then ?_
 refine c_norm [(5, Vl a13_l11 d13_l11 c13_l11)] ⟨rfl, trivial⟩ (fun J => ?_)
 refine c_sp ?_
 refine x_u 2 [(53, Vl a13_l11 d13_l11 c13_l11), (4, Vl a13_l11 d13_l11 c13_l11)] ?_
 refine x_ek ?_
 refine c_ret ?_
 refine r_ret (r_vals [Vl a13_l11 d13_l11 c13_l11] ⟨rfl, trivial⟩ ?_)
 have hx := some_inj h
 subst hx
 have hmr : MS wl11 [blk a13_l11, [b_p0], M] := hms.pick [some 0, some 1, some 2] _ rfl
 have hsu : ∀ x ∈ fl [blk a13_l11, [b_p0], M], x ∈ fl [blk a13_l11, [b_p0], M] := pick_sub [some 0, some 1, some 2] _ rfl
 have hfe : FR w.heap.size [blk a13_l11] := hfr.pick [some 0] _ rfl
 exact ⟨a13_l11, c13_l11, rfl, hev, hb_p0, hmr, hfe, hj13_l11.sub hsu⟩
def gen_Maker_Job (p0_0 : List Int) (p0_1 : Int) (p1 : Int) : Option (((List (Int × Int × Int × Int)) × Int) × Int) :=
((gen_Maker_Items p0_0 p0_1 p1).bind fun x5 =>
((gen_Maker_Pick p0_0 x5.2 ([0, 1, 2, 3, 12, 12, 12])).bind fun x10 =>
some ((x5.1, x10.1), x10.2)))

theorem gen_Maker_Job_w (b_p0 : Nat) (a_p0_0 : Option Addr) (c_p0_0 : Nat) (p0_0 : List Int) (p0_1 : Int) (p1 : Int) (r : ((List (Int × Int × Int × Int)) × Int) × Int) (w : World) (M : List Nat) (hms : MS w [[b_p0], M]) (hs_p0_0 : SlR (eInt .i64) w (fl [[b_p0], M]) a_p0_0 c_p0_0 p0_0) (hb_p0 : w.heap[b_p0]? = some (.cells #[Vl a_p0_0 p0_0 c_p0_0, Vi p0_1] 65 (0, 0))) (h : gen_Maker_Job p0_0 p0_1 p1 = some r) : CallVC Try.prog 9 [Vp b_p0 0, Vi p1] w fun v w' => ∃ (a0' : Option Addr), ∃ (c0' : Nat), v = .agg #[Vl a0' r.1.1 c0', Vi r.1.2] ∧ Ev [b_p0] w w' ∧ w'.heap[b_p0]? = some (.cells #[Vl a_p0_0 p0_0 c_p0_0, Vi r.2] 65 (0, 0)) ∧ MS w' [blk a0', [b_p0], M] ∧ FR w.heap.size [blk a0'] ∧ OwnS (eIt4) 79 w' (fl [blk a0', [b_p0], M]) a0' c0' r.1.1 := by
 refine calls_vc hmx Try.func9 (by kernel_rfl) rfl (rs := [.cell 4 25]) rfl (by kernel_rfl) (args := [Vp b_p0 0, Vi p1]) rfl ?_
 have hev : Ev [b_p0] w w := Ev.refl _ _
 have hfr : FR w.heap.size [] := FR.nil _
 refine c_sp ?_
 refine x_alloc (z := .agg #[.slice none 0 0, Vi 0]) rfl rfl (by kernel_rfl) (fun b3 w3 hq3 hb3 he3 hz3 => ?_)
 replace hb3 : w3.heap[b3]? = some (.cells #[.slice none 0 0, Vi 0] 25 (0, 0)) := hb3
 refine inl1 ?_
 have hst := Stp.box (ls := [[b_p0], M]) he3 hq3
 replace hs_p0_0 := hs_p0_0.step hst
 replace hb_p0 := he3.box hb_p0 nn
 replace hms := hms.box he3 hq3 hb3
 replace hfr := hfr.box hev.size hq3
 replace hev := hev.ext he3
 refine x_ek ?_
 refine c_sp ?_
 refine x_u 2 [(5, Vp b_p0 0), (6, Vi p1)] ?_
 obtain ⟨x5, hx, h⟩ := bind_some h
 have hpk : MS w3 ([[b_p0]] ++ [[b3], M]) := hms.pick [some 1, some 0, some 2] _ rfl
 have hsb0 : ∀ x ∈ fl ([[b_p0]] ++ [[b3], M]), x ∈ fl [[b3], [b_p0], M] := pick_sub [some 1, some 0, some 2] _ rfl
 have hsb : ∀ x ∈ fl ([[b_p0]] ++ [(fl [[b3], M])]), x ∈ fl [[b3], [b_p0], M] := fun x hx => hsb0 x (fl_unfold x hx)
 have hcall := gen_Maker_Items_w b_p0 a_p0_0 c_p0_0 p0_0 p0_1 p1 _ w3 (fl [[b3], M]) (hpk.fold (P := [[b_p0]])) (hs_p0_0.sub hsb) hb_p0 hx
 refine x_call 30 #[] #[] [Vp b_p0 0, Vi p1] _ rfl rfl rfl rfl hcall ?_
 rintro v w6 ⟨a0_6, c0_6, rfl, he6, hp6_0, hmn6, hfn6, hf6_1⟩
 clear hcall hx
 refine inl1 ?_
 have hpk2 : MS w3 ([[b_p0]] ++ [[b3], M]) := hms.pick [some 1, some 0, some 2] _ rfl
 have hsb2 : ∀ x ∈ fl ([[b_p0]] ++ [[b3], M]), x ∈ fl [[b3], [b_p0], M] := pick_sub [some 1, some 0, some 2] _ rfl
 have hst0 := Stp.call (LS := [[b3], [b_p0], M]) (res := [blk a0_6]) (par := [[b_p0]]) (R := [[b3], M]) he6 (fun b hb => hsb2 b (fl_left' (P := [[b_p0]]) b hb)) hfn6 (NP.init _ _) (fun x hx => hsb2 x (fl_right' (P := [[b_p0]]) x hx))
 have hsn : ∀ x ∈ fl [blk a0_6, [b3], [b_p0], M], x ∈ fl ([blk a0_6] ++ ([[b_p0]] ++ [[b3], M])) := pick_sub [some 0, some 2, some 1, some 3] _ rfl
 have hst := hst0.res hsn
 replace hs_p0_0 := hs_p0_0.step hst
 replace hb3 := he6.box hb3 ((MS.outs (P := [[b_p0]]) hpk2 0 rfl) _ mem1)
 replace hms : MS w6 [blk a0_6, [b3], [b_p0], M] := (MS.call (P := [[b_p0]]) (R := [[b3], M]) (res := [blk a0_6]) (par := [[b_p0]]) hpk2 he6 hmn6 hfn6 (NP.init _ _)).pick [some 0, some 2, some 1, some 3] _ rfl
 have hfr2 : FR w.heap.size [blk a0_6, [b3]] := (FR.cons (fun b hb => Nat.le_trans hev.size (hfn6.at 0 rfl b hb)) (FR.cons (hfr.at 0 rfl) (FR.nil _)))
 replace hev := hev.then he6 (fun b hb => .inl (by simpa using hb))
 replace hfr := hfr2
 clear hfr2
 replace hb_p0 := hp6_0
 replace hf6_1 := OwnS.plain (M' := fl [blk a0_6, [b3], [b_p0], M]) (plain_prod (plain_int _) (plain_prod (plain_int _) (plain_prod (plain_int _) (plain_int _)))) hf6_1
 clear hpk hsb hsb0 hpk2 hsb2 hst0 hsn hst
 refine x_u 1 [(8, Vp b_p0 0)] ?_
 refine x_buildSlice (vs := [(0, Vi 0), (1, Vi 1), (2, Vi 2), (3, Vi 3), (4, Vi 12), (5, Vi 12), (6, Vi 12)]) #[Vi 0, Vi 1, Vi 2, Vi 3, Vi 12, Vi 12, Vi 12] 3 rfl rfl rfl (by kernel_rfl) (fun b8 w8 hq8 hb8 he8 hz8 => ?_)
 refine inl1 ?_
 have hms0 := hms
 have hst := Stp.ext (ls := [blk a0_6, [b3], [b_p0], M]) he8
 replace hs_p0_0 := hs_p0_0.step hst
 replace hb_p0 := he8.box hb_p0 nn
 replace hb3 := he8.box hb3 nn
 replace hf6_1 := hf6_1.step hst he8 nn2
 replace hms := hms.ev he8
 replace hev := hev.ext he8
 have hs8 : SlR (eInt .i64) w8 (fl [blk a0_6, [b3], [b_p0], M]) (Ad b8 0) 7 ([0, 1, 2, 3, 12, 12, 12]) := ro_of_box hms0 hq8 hb8 rfl rfl (cells_at (cs := [Vi 0, Vi 1, Vi 2, Vi 3, Vi 12, Vi 12, Vi 12]) (CellsOf.cons (c := [Vi 0]) rfl (CellsOf.cons (c := [Vi 1]) rfl (CellsOf.cons (c := [Vi 2]) rfl (CellsOf.cons (c := [Vi 3]) rfl (CellsOf.cons (c := [Vi 12]) rfl (CellsOf.cons (c := [Vi 12]) rfl (CellsOf.cons (c := [Vi 12]) rfl CellsOf.nil))))))))
 clear hb8 hms0
 obtain ⟨x10, hx, h⟩ := bind_some h
 have hpk : MS w8 ([[b_p0]] ++ [blk a0_6, [b3], M]) := hms.pick [some 2, some 0, some 1, some 3] _ rfl
 have hsb0 : ∀ x ∈ fl ([[b_p0]] ++ [blk a0_6, [b3], M]), x ∈ fl [blk a0_6, [b3], [b_p0], M] := pick_sub [some 2, some 0, some 1, some 3] _ rfl
 have hsb : ∀ x ∈ fl ([[b_p0]] ++ [(fl [blk a0_6, [b3], M])]), x ∈ fl [blk a0_6, [b3], [b_p0], M] := fun x hx => hsb0 x (fl_unfold x hx)
 have hcall := gen_Maker_Pick_w b_p0 a_p0_0 c_p0_0 p0_0 x5.2 (Ad b8 0) 7 ([0, 1, 2, 3, 12, 12, 12]) _ w8 (fl [blk a0_6, [b3], M]) (hpk.fold (P := [[b_p0]])) (hs_p0_0.sub hsb) hb_p0 (hs8.sub hsb) hx
 refine x_call 31 #[] #[] [Vp b_p0 0, .slice (Ad b8 0) ([0, 1, 2, 3, 12, 12, 12]).length 7] _ rfl rfl rfl rfl hcall ?_
 rintro v w11 ⟨rfl, he11, hp11_0⟩
 clear hcall hx
 refine inl1 ?_
 have hpk2 : MS w8 ([[b_p0]] ++ [blk a0_6, [b3], M]) := hms.pick [some 2, some 0, some 1, some 3] _ rfl
 have hsb2 : ∀ x ∈ fl ([[b_p0]] ++ [blk a0_6, [b3], M]), x ∈ fl [blk a0_6, [b3], [b_p0], M] := pick_sub [some 2, some 0, some 1, some 3] _ rfl
 have hst0 := Stp.call (LS := [blk a0_6, [b3], [b_p0], M]) (res := []) (par := [[b_p0]]) (R := [blk a0_6, [b3], M]) he11 (fun b hb => hsb2 b (fl_left' (P := [[b_p0]]) b hb)) (FR.nil _) (NP.init _ _) (fun x hx => hsb2 x (fl_right' (P := [[b_p0]]) x hx))
 have hsn : ∀ x ∈ fl [blk a0_6, [b3], [b_p0], M], x ∈ fl ([] ++ ([[b_p0]] ++ [blk a0_6, [b3], M])) := pick_sub [some 1, some 2, some 0, some 3] _ rfl
 have hst := hst0.res hsn
 replace hs_p0_0 := hs_p0_0.step hst
 replace hb3 := he11.box hb3 ((MS.outs (P := [[b_p0]]) hpk2 1 rfl) _ mem1)
 replace hf6_1 := hf6_1.step hst he11 (MS.outs (P := [[b_p0]]) hpk2 0 rfl)
 replace hs8 := hs8.step hst
 replace hms := hms.ev he11
 replace hev := hev.then he11 (fun b hb => .inl (by simpa using hb))
 replace hb_p0 := hp11_0
 clear hpk hsb hsb0 hpk2 hsb2 hst0 hsn hst
 refine x_build (vs := [(0, Vl a0_6 x5.1 c0_6), (1, Vi x10.1)]) (.agg #[Vl a0_6 x5.1 c0_6, Vi x10.1]) rfl rfl rfl (fun _ _ => by kernel_rfl) ?_
 obtain ⟨w12, hr12, hb12, he12⟩ := store_boxagg 0 [Vl a0_6 x5.1 c0_6, Vi x10.1] #[Vl a0_6 x5.1 c0_6, Vi x10.1] tagg25 hb3 rfl rfl rfl
 refine x_store w12 (xv := Vp b3 0) (yv := .agg #[Vl a0_6 x5.1 c0_6, Vi x10.1]) rfl rfl rfl rfl hr12 ?_
 refine inl1 ?_
 have hst := Stp.ev' (ls := [blk a0_6, [b3], [b_p0], M]) he12 (mem_flat 1 rfl)
 replace hs_p0_0 := hs_p0_0.step hst
 replace hb_p0 := he12.box hb_p0 (hms.apart 2 1 rfl rfl rfl _ mem1)
 replace hf6_1 := hf6_1.step hst he12 (hms.apart 0 1 rfl rfl rfl)
 replace hs8 := hs8.step hst
 replace hms := hms.ev he12
 replace hev := hev.then he12 (fun b hb => .inr (hfr.at 1 rfl b hb))
 replace hb3 := hb12
 refine x_ek ?_
 refine c_ret ?_
 refine r_ret (r_vals [.agg #[Vl a0_6 x5.1 c0_6, Vi x10.1]] ⟨⟨_, rfl, loadVar_of_reads (reads_boxagg (Mo := []) 0 [Vl a0_6 x5.1 c0_6, Vi x10.1] tagg25 hb3 nn rfl)⟩, trivial⟩ ?_)
 have hx := some_inj h
 subst hx
 have hmr : MS w12 [blk a0_6, [b_p0], M] := hms.pick [some 0, some 2, some 3] _ rfl
 have hsu : ∀ x ∈ fl [blk a0_6, [b_p0], M], x ∈ fl [blk a0_6, [b3], [b_p0], M] := pick_sub [some 0, some 2, some 3] _ rfl
 have hfe : FR w.heap.size [blk a0_6] := hfr.pick [some 0] _ rfl
 exact ⟨a0_6, c0_6, rfl, hev, hb_p0, hmr, hfe, hf6_1.sub hsu⟩
def gen_Bytes_L4 (p0 : List Int) (p1 : List Int) (s : Int) : Option (Step Int (Unit ⊕ Unit)) :=
match s with
| i_s5_l4 =>
(if (decide (i_s5_l4 < ((p0).length : Int))) = true then
((idx p0 i_s5_l4).bind fun x6 =>
((idx p1 i_s5_l4).bind fun x8 =>
(if (x6 != x8) = true then
some (.done (.inl ()))
else
some (.next (IntKind.i64.wrap (i_s5_l4 + 1))))))
else
some (.done (.inr ())))

def gen_Bytes (p0 : List Int) (p1 : List Int) : Option Bool :=
(if (((p0).length : Int) != ((p1).length : Int)) = true then
some false
else
((loop (gen_Bytes_L4 p0 p1) 0).bind fun d => match d with
| (.inl _) => some false
| (.inr _) => some true))

theorem gen_Bytes_w (a_p0 : Option Addr) (c_p0 : Nat) (p0 : List Int) (a_p1 : Option Addr) (c_p1 : Nat) (p1 : List Int) (r : Bool) (w : World) (M : List Nat) (hms : MS w [M]) (hs_p0 : SlR (eInt .u8) w (fl [M]) a_p0 c_p0 p0) (hs_p1 : SlR (eInt .u8) w (fl [M]) a_p1 c_p1 p1) (h : gen_Bytes p0 p1 = some r) : CallVC Try.prog 24 [Vl a_p0 p0 c_p0, Vl a_p1 p1 c_p1] w fun v w' => v = .bool r ∧ Ev [] w w' := by
 refine calls_vc hmx Try.func24 (by kernel_rfl) rfl (rs := [.tmp 4]) rfl (by kernel_rfl) (args := [Vl a_p0 p0 c_p0, Vl a_p1 p1 c_p1]) rfl ?_
 have hev : Ev [] w w := Ev.refl _ _
 have hfr : FR w.heap.size [] := FR.nil _
 refine c_sp ?_
 refine x_u 1 [(4, .bool false)] ?_
 refine x_ek ?_
 refine c_seq ?_
 refine c_sp ?_
 refine x_u 1 [(6, Vl a_p0 p0 c_p0)] ?_
 refine x_len (vs := [Vl a_p0 p0 c_p0]) (Vi ((p0).length : Int)) rfl rfl rfl (reads_len tsl46 _ _ _ _ _) ?_
 refine x_u 1 [(8, Vl a_p1 p1 c_p1)] ?_
 refine x_len (vs := [Vl a_p1 p1 c_p1]) (Vi ((p1).length : Int)) rfl rfl rfl (reads_len tsl46 _ _ _ _ _) ?_
 refine x_u 1 [(10, .bool (((p0).length : Int) != ((p1).length : Int)))] ?_
 refine x_ek ?_
 refine c_if (((p0).length : Int) != ((p1).length : Int)) rfl h (fun h => ?_) (fun h => ?_)
 · refine c_sp ?_
   refine x_u 1 [(4, .bool false)] ?_
   refine x_ek ?_
   refine c_ret ?_
   refine k_then_ret ?_
   refine r_ret (r_vals [.bool false] ⟨rfl, trivial⟩ ?_)
   have hx := some_inj h
   subst hx
   have hmr : MS w [M] := hms.pick [some 0] _ rfl
   have hsu : ∀ x ∈ fl [M], x ∈ fl [M] := pick_sub [some 0] _ rfl
   exact ⟨rfl, hev⟩
 refine c_skip ?_
 refine k_then ?_
 refine c_seq ?_
 refine c_sp ?_
 refine x_u 1 [(5, Vi 0)] ?_
 refine x_ek ?_
 refine c_block ?_
 obtain ⟨d4, hd4, h4⟩ := bind_some h
 obtain ⟨m4, hd4⟩ := loop_some hd4
 refine c_loop (loop_rule hmx (σ := Nat × Int) (fun s => match s with | (_, i_s5_l4) => [(0, Vl a_p0 p0 c_p0), (1, Vl a_p1 p1 c_p1), (5, Vi i_s5_l4)]) (fun s w' => match s with | (m, i_s5_l4) => loopN (gen_Bytes_L4 p0 p1) m i_s5_l4 = some d4 ∧ Ev [] w w' ∧ MS w' [M] ∧ FR w.heap.size [] ∧ SlR (eInt .u8) w' (fl [M]) a_p0 c_p0 p0 ∧ SlR (eInt .u8) w' (fl [M]) a_p1 c_p1 p1) (fun s => s.1) (m4, 0) ⟨rfl, rfl, rfl, trivial⟩ ⟨hd4, hev, hms, hfr, hs_p0, hs_p1⟩ ?_)
 rintro ⟨m4, i_s5_l4⟩ J wl4 ⟨hn4, hev, hms, hfr, hs_p0, hs_p1⟩
 rcases m4 with _ | m4
 · exact (loopN_zero hn4).elim
 obtain ⟨t4, h, hn4⟩ := bind_some hn4
 refine c_seq ?_
 refine c_sp ?_
 refine x_u 2 [(11, Vi i_s5_l4), (12, Vl a_p0 p0 c_p0)] ?_
 refine x_len (vs := [Vl a_p0 p0 c_p0]) (Vi ((p0).length : Int)) rfl rfl rfl (reads_len tsl46 _ _ _ _ _) ?_
 refine x_u 1 [(14, .bool (decide (i_s5_l4 < ((p0).length : Int))))] ?_
 refine x_ek ?_
 refine c_norm [(0, Vl a_p0 p0 c_p0), (1, Vl a_p1 p1 c_p1), (5, Vi i_s5_l4), (14, .bool (decide (i_s5_l4 < ((p0).length : Int))))] ⟨rfl, rfl, rfl, rfl, trivial⟩ (fun J => ?_)
 refine c_if (decide (i_s5_l4 < ((p0).length : Int))) rfl h (fun h => ?_) (fun h => ?_)
 · refine c_skip ?_
   refine k_then ?_
   refine c_seq ?_
   refine c_block ?_
   refine c_seq ?_
   refine c_drawn [] [(0, false), (1, false), (2, false), (3, false), (4, false), (5, false), (6, false), (7, false), (8, false)] _ (by kernel_rfl) rfl ?_
   have hst := Stp.ext (ls := [M]) (Ev.drew wl4)
   replace hs_p0 := hs_p0.step hst
   replace hs_p1 := hs_p1.step hst
   replace hms := hms.ev (Ev.drew wl4)
   replace hev := hev.ext (Ev.drew wl4)
   refine x_u 2 [(17, Vl a_p0 p0 c_p0), (18, Vi i_s5_l4)] ?_
   obtain ⟨x6, hx6, h⟩ := bind_some h
   obtain ⟨ad6, cs6, hr6, hc6, hR⟩ := reads_index (Mo := []) tsl46 hs_p0 hx6
   obtain rfl := hR
   refine x_indexAddr (xv := Vl a_p0 p0 c_p0) (yv := Vi i_s5_l4) (.pointer (some ad6)) rfl rfl rfl rfl hr6 ?_
   refine x_load (xv := .pointer (some ad6)) (.int .u8 x6) rfl rfl rfl (reads_cell0 tcell5 hc6 (fun _ h => by cases h)) ?_
   refine x_u 2 [(21, Vl a_p1 p1 c_p1), (22, Vi i_s5_l4)] ?_
   obtain ⟨x8, hx8, h⟩ := bind_some h
   obtain ⟨ad8, cs8, hr8, hc8, hR⟩ := reads_index (Mo := []) tsl46 hs_p1 hx8
   obtain rfl := hR
   refine x_indexAddr (xv := Vl a_p1 p1 c_p1) (yv := Vi i_s5_l4) (.pointer (some ad8)) rfl rfl rfl rfl hr8 ?_
   refine x_load (xv := .pointer (some ad8)) (.int .u8 x8) rfl rfl rfl (reads_cell0 tcell5 hc8 (fun _ h => by cases h)) ?_
   refine x_u 1 [(25, .bool (x6 != x8))] ?_
   refine x_ek ?_
   refine c_if (x6 != x8) rfl h (fun h => ?_) (fun h => ?_)
   · refine c_sp ?_
     refine x_u 1 [(4, .bool false)] ?_
     refine x_ek ?_
     refine c_ret ?_
     refine k_block_ret ?_
     refine k_then_ret ?_
     have hx := some_inj h
     subst hx
     have hy := some_inj hn4
     subst hy
     replace h := h4
     refine k_then_ret ?_
     refine k_block_ret ?_
     refine k_then_ret ?_
     refine r_ret (r_vals [.bool false] ⟨rfl, trivial⟩ ?_)
     have hx := some_inj h
     subst hx
     have hmr : MS (wl4).drew [M] := hms.pick [some 0] _ rfl
     have hsu : ∀ x ∈ fl [M], x ∈ fl [M] := pick_sub [some 0] _ rfl
     exact ⟨rfl, hev⟩
   refine c_skip ?_
   refine k_block ?_
   refine k_then ?_
   refine c_plain ?_
   refine x_u 3 [(15, Vi i_s5_l4), (16, Vi (IntKind.i64.wrap (i_s5_l4 + 1))), (5, Vi (IntKind.i64.wrap (i_s5_l4 + 1)))] ?_
   refine x_end rfl ?_
   have hx := some_inj h
   subst hx
   exact k_then ⟨(m4, IntKind.i64.wrap (i_s5_l4 + 1)), ⟨rfl, rfl, rfl, trivial⟩, ⟨hn4, hev, hms, hfr, hs_p0, hs_p1⟩, Nat.lt_succ_self _⟩
 refine c_exit ?_
 refine k_then_exit ?_
 have hx := some_inj h
 subst hx
 have hy := some_inj hn4
 subst hy
 replace h := h4
 refine k_then_exit ?_
 refine k_block_in ?_
 refine k_then ?_
 refine c_norm [] trivial (fun J => ?_)
 refine c_sp ?_
 refine x_u 1 [(4, .bool true)] ?_
 refine x_ek ?_
 refine c_ret ?_
 refine r_ret (r_vals [.bool true] ⟨rfl, trivial⟩ ?_)
 have hx := some_inj h
 subst hx
 have hmr : MS wl4 [M] := hms.pick [some 0] _ rfl
 have hsu : ∀ x ∈ fl [M], x ∈ fl [M] := pick_sub [some 0] _ rfl
 exact ⟨rfl, hev⟩
def gen_Ints_L4 (p0 : List Int) (p1 : List Int) (s : Int) : Option (Step Int (Unit ⊕ Unit)) :=
match s with
| i_s5_l4 =>
(if (decide (i_s5_l4 < ((p0).length : Int))) = true then
((idx p0 i_s5_l4).bind fun x6 =>
((idx p1 i_s5_l4).bind fun x8 =>
(if (x6 != x8) = true then
some (.done (.inl ()))
else
some (.next (IntKind.i64.wrap (i_s5_l4 + 1))))))
else
some (.done (.inr ())))

def gen_Ints (p0 : List Int) (p1 : List Int) : Option Bool :=
(if (((p0).length : Int) != ((p1).length : Int)) = true then
some false
else
((loop (gen_Ints_L4 p0 p1) 0).bind fun d => match d with
| (.inl _) => some false
| (.inr _) => some true))

theorem gen_Ints_w (a_p0 : Option Addr) (c_p0 : Nat) (p0 : List Int) (a_p1 : Option Addr) (c_p1 : Nat) (p1 : List Int) (r : Bool) (w : World) (M : List Nat) (hms : MS w [M]) (hs_p0 : SlR (eInt .i64) w (fl [M]) a_p0 c_p0 p0) (hs_p1 : SlR (eInt .i64) w (fl [M]) a_p1 c_p1 p1) (h : gen_Ints p0 p1 = some r) : CallVC Try.prog 36 [Vl a_p0 p0 c_p0, Vl a_p1 p1 c_p1] w fun v w' => v = .bool r ∧ Ev [] w w' := by
 refine calls_vc hmx Try.func36 (by kernel_rfl) rfl (rs := [.tmp 4]) rfl (by kernel_rfl) (args := [Vl a_p0 p0 c_p0, Vl a_p1 p1 c_p1]) rfl ?_
 have hev : Ev [] w w := Ev.refl _ _
 have hfr : FR w.heap.size [] := FR.nil _
 refine c_sp ?_
 refine x_u 1 [(4, .bool false)] ?_
 refine x_ek ?_
 refine c_seq ?_
 refine c_sp ?_
 refine x_u 1 [(6, Vl a_p0 p0 c_p0)] ?_
 refine x_len (vs := [Vl a_p0 p0 c_p0]) (Vi ((p0).length : Int)) rfl rfl rfl (reads_len tsl22 _ _ _ _ _) ?_
 refine x_u 1 [(8, Vl a_p1 p1 c_p1)] ?_
 refine x_len (vs := [Vl a_p1 p1 c_p1]) (Vi ((p1).length : Int)) rfl rfl rfl (reads_len tsl22 _ _ _ _ _) ?_
 refine x_u 1 [(10, .bool (((p0).length : Int) != ((p1).length : Int)))] ?_
 refine x_ek ?_
 refine c_if (((p0).length : Int) != ((p1).length : Int)) rfl h (fun h => ?_) (fun h => ?_)
 · refine c_sp ?_
   refine x_u 1 [(4, .bool false)] ?_
   refine x_ek ?_
   refine c_ret ?_
   refine k_then_ret ?_
   refine r_ret (r_vals [.bool false] ⟨rfl, trivial⟩ ?_)
   have hx := some_inj h
   subst hx
   have hmr : MS w [M] := hms.pick [some 0] _ rfl
   have hsu : ∀ x ∈ fl [M], x ∈ fl [M] := pick_sub [some 0] _ rfl
   exact ⟨rfl, hev⟩
 refine c_skip ?_
 refine k_then ?_
 refine c_seq ?_
 refine c_sp ?_
 refine x_u 1 [(5, Vi 0)] ?_
 refine x_ek ?_
 refine c_block ?_
 obtain ⟨d4, hd4, h4⟩ := bind_some h
 obtain ⟨m4, hd4⟩ := loop_some hd4
 refine c_loop (loop_rule hmx (σ := Nat × Int) (fun s => match s with | (_, i_s5_l4) => [(0, Vl a_p0 p0 c_p0), (1, Vl a_p1 p1 c_p1), (5, Vi i_s5_l4)]) (fun s w' => match s with | (m, i_s5_l4) => loopN (gen_Ints_L4 p0 p1) m i_s5_l4 = some d4 ∧ Ev [] w w' ∧ MS w' [M] ∧ FR w.heap.size [] ∧ SlR (eInt .i64) w' (fl [M]) a_p0 c_p0 p0 ∧ SlR (eInt .i64) w' (fl [M]) a_p1 c_p1 p1) (fun s => s.1) (m4, 0) ⟨rfl, rfl, rfl, trivial⟩ ⟨hd4, hev, hms, hfr, hs_p0, hs_p1⟩ ?_)
 rintro ⟨m4, i_s5_l4⟩ J wl4 ⟨hn4, hev, hms, hfr, hs_p0, hs_p1⟩
 rcases m4 with _ | m4
 · exact (loopN_zero hn4).elim
 obtain ⟨t4, h, hn4⟩ := bind_some hn4
 refine c_seq ?_
 refine c_sp ?_
 refine x_u 2 [(11, Vi i_s5_l4), (12, Vl a_p0 p0 c_p0)] ?_
 refine x_len (vs := [Vl a_p0 p0 c_p0]) (Vi ((p0).length : Int)) rfl rfl rfl (reads_len tsl22 _ _ _ _ _) ?_
 refine x_u 1 [(14, .bool (decide (i_s5_l4 < ((p0).length : Int))))] ?_
 refine x_ek ?_
 refine c_norm [(0, Vl a_p0 p0 c_p0), (1, Vl a_p1 p1 c_p1), (5, Vi i_s5_l4), (14, .bool (decide (i_s5_l4 < ((p0).length : Int))))] ⟨rfl, rfl, rfl, rfl, trivial⟩ (fun J => ?_)
 refine c_if (decide (i_s5_l4 < ((p0).length : Int))) rfl h (fun h => ?_) (fun h => ?_)
 · refine c_skip ?_
   refine k_then ?_
   refine c_seq ?_
   refine c_block ?_
   refine c_seq ?_
   refine c_drawn [] [(0, false), (1, false), (2, false), (3, false), (4, false), (5, false), (6, false), (7, false), (8, false)] _ (by kernel_rfl) rfl ?_
   have hst := Stp.ext (ls := [M]) (Ev.drew wl4)
   replace hs_p0 := hs_p0.step hst
   replace hs_p1 := hs_p1.step hst
   replace hms := hms.ev (Ev.drew wl4)
   replace hev := hev.ext (Ev.drew wl4)
   refine x_u 2 [(17, Vl a_p0 p0 c_p0), (18, Vi i_s5_l4)] ?_
   obtain ⟨x6, hx6, h⟩ := bind_some h
   obtain ⟨ad6, cs6, hr6, hc6, hR⟩ := reads_index (Mo := []) tsl22 hs_p0 hx6
   obtain rfl := hR
   refine x_indexAddr (xv := Vl a_p0 p0 c_p0) (yv := Vi i_s5_l4) (.pointer (some ad6)) rfl rfl rfl rfl hr6 ?_
   refine x_load (xv := .pointer (some ad6)) (Vi x6) rfl rfl rfl (reads_cell0 tcell3 hc6 (fun _ h => by cases h)) ?_
   refine x_u 2 [(21, Vl a_p1 p1 c_p1), (22, Vi i_s5_l4)] ?_
   obtain ⟨x8, hx8, h⟩ := bind_some h
   obtain ⟨ad8, cs8, hr8, hc8, hR⟩ := reads_index (Mo := []) tsl22 hs_p1 hx8
   obtain rfl := hR
   refine x_indexAddr (xv := Vl a_p1 p1 c_p1) (yv := Vi i_s5_l4) (.pointer (some ad8)) rfl rfl rfl rfl hr8 ?_
   refine x_load (xv := .pointer (some ad8)) (Vi x8) rfl rfl rfl (reads_cell0 tcell3 hc8 (fun _ h => by cases h)) ?_
   refine x_u 1 [(25, .bool (x6 != x8))] ?_
   refine x_ek ?_
   refine c_if (x6 != x8) rfl h (fun h => ?_) (fun h => ?_)
   · refine c_sp ?_
     refine x_u 1 [(4, .bool false)] ?_
     refine x_ek ?_
     refine c_ret ?_
     refine k_block_ret ?_
     refine k_then_ret ?_
     have hx := some_inj h
     subst hx
     have hy := some_inj hn4
     subst hy
     replace h := h4
     refine k_then_ret ?_
     refine k_block_ret ?_
     refine k_then_ret ?_
     refine r_ret (r_vals [.bool false] ⟨rfl, trivial⟩ ?_)
     have hx := some_inj h
     subst hx
     have hmr : MS (wl4).drew [M] := hms.pick [some 0] _ rfl
     have hsu : ∀ x ∈ fl [M], x ∈ fl [M] := pick_sub [some 0] _ rfl
     exact ⟨rfl, hev⟩
   refine c_skip ?_
   refine k_block ?_
   refine k_then ?_
   refine c_plain ?_
   refine x_u 3 [(15, Vi i_s5_l4), (16, Vi (IntKind.i64.wrap (i_s5_l4 + 1))), (5, Vi (IntKind.i64.wrap (i_s5_l4 + 1)))] ?_
   refine x_end rfl ?_
   have hx := some_inj h
   subst hx
   exact k_then ⟨(m4, IntKind.i64.wrap (i_s5_l4 + 1)), ⟨rfl, rfl, rfl, trivial⟩, ⟨hn4, hev, hms, hfr, hs_p0, hs_p1⟩, Nat.lt_succ_self _⟩
 refine c_exit ?_
 refine k_then_exit ?_
 have hx := some_inj h
 subst hx
 have hy := some_inj hn4
 subst hy
 replace h := h4
 refine k_then_exit ?_
 refine k_block_in ?_
 refine k_then ?_
 refine c_norm [] trivial (fun J => ?_)
 refine c_sp ?_
 refine x_u 1 [(4, .bool true)] ?_
 refine x_ek ?_
 refine c_ret ?_
 refine r_ret (r_vals [.bool true] ⟨rfl, trivial⟩ ?_)
 have hx := some_inj h
 subst hx
 have hmr : MS wl4 [M] := hms.pick [some 0] _ rfl
 have hsu : ∀ x ∈ fl [M], x ∈ fl [M] := pick_sub [some 0] _ rfl
 exact ⟨rfl, hev⟩
def gen_Plans (p0_0 : Int) (p0_1 : List Int) (p1_0 : Int) (p1_1 : List Int) : Option Bool :=
(if (p0_0 == p1_0) = true then
((gen_Ints p0_1 p1_1).bind fun x7 =>
some x7)
else
some false)

theorem gen_Plans_w (p0_0 : Int) (a_p0_1 : Option Addr) (c_p0_1 : Nat) (p0_1 : List Int) (p1_0 : Int) (a_p1_1 : Option Addr) (c_p1_1 : Nat) (p1_1 : List Int) (r : Bool) (w : World) (M : List Nat) (hms : MS w [M]) (hs_p0_1 : SlR (eInt .i64) w (fl [M]) a_p0_1 c_p0_1 p0_1) (hs_p1_1 : SlR (eInt .i64) w (fl [M]) a_p1_1 c_p1_1 p1_1) (h : gen_Plans p0_0 p0_1 p1_0 p1_1 = some r) : CallVC Try.prog 35 [.agg #[Vi p0_0, Vl a_p0_1 p0_1 c_p0_1], .agg #[Vi p1_0, Vl a_p1_1 p1_1 c_p1_1]] w fun v w' => v = .bool r ∧ Ev [] w w' := by
 refine calls_vc hmx Try.func35 (by kernel_rfl) rfl (rs := [.tmp 4]) rfl (by kernel_rfl) (args := [.agg #[Vi p0_0, Vl a_p0_1 p0_1 c_p0_1], .agg #[Vi p1_0, Vl a_p1_1 p1_1 c_p1_1]]) rfl ?_
 have hev : Ev [] w w := Ev.refl _ _
 have hfr : FR w.heap.size [] := FR.nil _
 refine c_sp ?_
 refine x_box (xv := .agg #[Vi p0_0, Vl a_p0_1 p0_1 c_p0_1]) rfl rfl rfl (fun b3 w3 hq3 hb3 he3 hz3 => ?_)
 replace hb3 : w3.heap[b3]? = some (.cells #[Vi p0_0, Vl a_p0_1 p0_1 c_p0_1] 27 (0, 0)) := hb3
 refine inl1 ?_
 have hst := Stp.box (ls := [M]) he3 hq3
 replace hs_p0_1 := hs_p0_1.step hst
 replace hs_p1_1 := hs_p1_1.step hst
 replace hms := hms.box he3 hq3 hb3
 replace hfr := hfr.box hev.size hq3
 replace hev := hev.ext he3
 refine x_box (xv := .agg #[Vi p1_0, Vl a_p1_1 p1_1 c_p1_1]) rfl rfl rfl (fun b5 w5 hq5 hb5 he5 hz5 => ?_)
 replace hb5 : w5.heap[b5]? = some (.cells #[Vi p1_0, Vl a_p1_1 p1_1 c_p1_1] 27 (0, 0)) := hb5
 refine inl1 ?_
 have hst := Stp.box (ls := [[b3], M]) he5 hq5
 replace hs_p0_1 := hs_p0_1.step hst
 replace hs_p1_1 := hs_p1_1.step hst
 replace hb3 := he5.box hb3 nn
 replace hms := hms.box he5 hq5 hb5
 replace hfr := hfr.box hev.size hq5
 replace hev := hev.ext he5
 refine x_u 1 [(4, .bool false)] ?_
 refine x_ek ?_
 refine c_sp ?_
 refine x_fieldAddr (xv := Vp b3 0) (Vp b3 0) rfl rfl rfl (reads_field tfld27_0 _ _) ?_
 refine x_load (xv := Vp b3 0) (Vi p0_0) rfl rfl rfl (reads_box tcell3 hb3 nn 0 _ rfl) ?_
 refine x_fieldAddr (xv := Vp b5 0) (Vp b5 0) rfl rfl rfl (reads_field tfld27_0 _ _) ?_
 refine x_load (xv := Vp b5 0) (Vi p1_0) rfl rfl rfl (reads_box tcell3 hb5 nn 0 _ rfl) ?_
 refine x_u 2 [(9, .bool (p0_0 == p1_0)), (10, .bool (p0_0 == p1_0))] ?_
 refine x_if 10 (p0_0 == p1_0) rfl h (fun h => ?_) (fun h => ?_)
 · refine x_fieldAddr (xv := Vp b3 0) (Vp b3 1) rfl rfl rfl (reads_field tfld27_1 _ _) ?_
   refine x_load (xv := Vp b3 1) (Vl a_p0_1 p0_1 c_p0_1) rfl rfl rfl (reads_box tcell22 hb3 nn 1 _ rfl) ?_
   refine x_fieldAddr (xv := Vp b5 0) (Vp b5 1) rfl rfl rfl (reads_field tfld27_1 _ _) ?_
   refine x_load (xv := Vp b5 1) (Vl a_p1_1 p1_1 c_p1_1) rfl rfl rfl (reads_box tcell22 hb5 nn 1 _ rfl) ?_
   obtain ⟨x7, hx, h⟩ := bind_some h
   have hpk : MS w5 ([] ++ [[b5], [b3], M]) := hms.pick [some 0, some 1, some 2] _ rfl
   have hsb0 : ∀ x ∈ fl ([] ++ [[b5], [b3], M]), x ∈ fl [[b5], [b3], M] := pick_sub [some 0, some 1, some 2] _ rfl
   have hsb : ∀ x ∈ fl ([] ++ [(fl [[b5], [b3], M])]), x ∈ fl [[b5], [b3], M] := fun x hx => hsb0 x (fl_unfold x hx)
   have hcall := gen_Ints_w a_p0_1 c_p0_1 p0_1 a_p1_1 c_p1_1 p1_1 _ w5 (fl [[b5], [b3], M]) (MS.fold (P := []) hpk) (hs_p0_1.sub hsb) (hs_p1_1.sub hsb) hx
   refine x_call 36 #[] #[] [Vl a_p0_1 p0_1 c_p0_1, Vl a_p1_1 p1_1 c_p1_1] _ rfl rfl rfl rfl hcall ?_
   rintro v w8 ⟨rfl, he8⟩
   clear hcall hx
   refine inl1 ?_
   have hst := Stp.ext (ls := [[b5], [b3], M]) he8
   replace hs_p0_1 := hs_p0_1.step hst
   replace hs_p1_1 := hs_p1_1.step hst
   replace hb3 := he8.box hb3 nn
   replace hb5 := he8.box hb5 nn
   replace hms := hms.ev he8
   replace hev := hev.ext he8
   clear hpk hsb hsb0
   refine x_u 2 [(16, .bool x7), (4, .bool x7)] ?_
   refine x_ek ?_
   refine c_norm [(4, .bool x7)] ⟨rfl, trivial⟩ (fun J => ?_)
   refine c_ret ?_
   refine r_ret (r_vals [.bool x7] ⟨rfl, trivial⟩ ?_)
   have hx := some_inj h
   subst hx
   have hmr : MS w8 [M] := hms.pick [some 2] _ rfl
   have hsu : ∀ x ∈ fl [M], x ∈ fl [[b5], [b3], M] := pick_sub [some 2] _ rfl
   exact ⟨rfl, hev⟩
 refine x_u 7 [(11, undef), (12, undef), (13, undef), (14, undef), (15, undef), (16, .bool false), (4, .bool false)] ?_
 refine x_ek ?_
 refine c_norm [(4, .bool false)] ⟨rfl, trivial⟩ (fun J => ?_)
 refine c_ret ?_
 refine r_ret (r_vals [.bool false] ⟨rfl, trivial⟩ ?_)
 have hx := some_inj h
 subst hx
 have hmr : MS w5 [M] := hms.pick [some 2] _ rfl
 have hsu : ∀ x ∈ fl [M], x ∈ fl [[b5], [b3], M] := pick_sub [some 2] _ rfl
 exact ⟨rfl, hev⟩
def gen_Proofs (p0_0_0 : Int) (p0_0_1 : List Int) (p0_1 : List Int) (p1_0_0 : Int) (p1_0_1 : List Int) (p1_1 : List Int) : Option Bool :=
((gen_Plans p0_0_0 p0_0_1 p1_0_0 p1_0_1).bind fun x9 =>
(if x9 = true then
((gen_Ints p0_1 p1_1).bind fun x11 =>
some x11)
else
some false))

theorem gen_Proofs_w (p0_0_0 : Int) (a_p0_0_1 : Option Addr) (c_p0_0_1 : Nat) (p0_0_1 : List Int) (a_p0_1 : Option Addr) (c_p0_1 : Nat) (p0_1 : List Int) (p1_0_0 : Int) (a_p1_0_1 : Option Addr) (c_p1_0_1 : Nat) (p1_0_1 : List Int) (a_p1_1 : Option Addr) (c_p1_1 : Nat) (p1_1 : List Int) (r : Bool) (w : World) (M : List Nat) (hms : MS w [M]) (hs_p0_0_1 : SlR (eInt .i64) w (fl [M]) a_p0_0_1 c_p0_0_1 p0_0_1) (hs_p0_1 : SlR (eInt .i64) w (fl [M]) a_p0_1 c_p0_1 p0_1) (hs_p1_0_1 : SlR (eInt .i64) w (fl [M]) a_p1_0_1 c_p1_0_1 p1_0_1) (hs_p1_1 : SlR (eInt .i64) w (fl [M]) a_p1_1 c_p1_1 p1_1) (h : gen_Proofs p0_0_0 p0_0_1 p0_1 p1_0_0 p1_0_1 p1_1 = some r) : CallVC Try.prog 12 [.agg #[Vi p0_0_0, Vl a_p0_0_1 p0_0_1 c_p0_0_1, Vl a_p0_1 p0_1 c_p0_1], .agg #[Vi p1_0_0, Vl a_p1_0_1 p1_0_1 c_p1_0_1, Vl a_p1_1 p1_1 c_p1_1]] w fun v w' => v = .bool r ∧ Ev [] w w' := by
 refine calls_vc hmx Try.func12 (by kernel_rfl) rfl (rs := [.tmp 4]) rfl (by kernel_rfl) (args := [.agg #[Vi p0_0_0, Vl a_p0_0_1 p0_0_1 c_p0_0_1, Vl a_p0_1 p0_1 c_p0_1], .agg #[Vi p1_0_0, Vl a_p1_0_1 p1_0_1 c_p1_0_1, Vl a_p1_1 p1_1 c_p1_1]]) rfl ?_
 have hev : Ev [] w w := Ev.refl _ _
 have hfr : FR w.heap.size [] := FR.nil _
 refine c_sp ?_
 refine x_box (xv := .agg #[Vi p0_0_0, Vl a_p0_0_1 p0_0_1 c_p0_0_1, Vl a_p0_1 p0_1 c_p0_1]) rfl rfl rfl (fun b5 w5 hq5 hb5 he5 hz5 => ?_)
 replace hb5 : w5.heap[b5]? = some (.cells #[Vi p0_0_0, Vl a_p0_0_1 p0_0_1 c_p0_0_1, Vl a_p0_1 p0_1 c_p0_1] 29 (0, 0)) := hb5
 refine inl1 ?_
 have hst := Stp.box (ls := [M]) he5 hq5
 replace hs_p0_0_1 := hs_p0_0_1.step hst
 replace hs_p0_1 := hs_p0_1.step hst
 replace hs_p1_0_1 := hs_p1_0_1.step hst
 replace hs_p1_1 := hs_p1_1.step hst
 replace hms := hms.box he5 hq5 hb5
 replace hfr := hfr.box hev.size hq5
 replace hev := hev.ext he5
 refine x_box (xv := .agg #[Vi p1_0_0, Vl a_p1_0_1 p1_0_1 c_p1_0_1, Vl a_p1_1 p1_1 c_p1_1]) rfl rfl rfl (fun b7 w7 hq7 hb7 he7 hz7 => ?_)
 replace hb7 : w7.heap[b7]? = some (.cells #[Vi p1_0_0, Vl a_p1_0_1 p1_0_1 c_p1_0_1, Vl a_p1_1 p1_1 c_p1_1] 29 (0, 0)) := hb7
 refine inl1 ?_
 have hst := Stp.box (ls := [[b5], M]) he7 hq7
 replace hs_p0_0_1 := hs_p0_0_1.step hst
 replace hs_p0_1 := hs_p0_1.step hst
 replace hs_p1_0_1 := hs_p1_0_1.step hst
 replace hs_p1_1 := hs_p1_1.step hst
 replace hb5 := he7.box hb5 nn
 replace hms := hms.box he7 hq7 hb7
 replace hfr := hfr.box hev.size hq7
 replace hev := hev.ext he7
 refine x_u 1 [(4, .bool false)] ?_
 refine x_ek ?_
 refine c_sp ?_
 refine x_fieldAddr (xv := Vp b5 0) (Vp b5 0) rfl rfl rfl (reads_field tfld29_0 _ _) ?_
 refine x_load (xv := Vp b5 0) (.agg #[Vi p0_0_0, Vl a_p0_0_1 p0_0_1 c_p0_0_1]) rfl rfl rfl (reads_boxagg 0 [Vi p0_0_0, Vl a_p0_0_1 p0_0_1 c_p0_0_1] tagg27 hb5 nn rfl) ?_
 refine x_fieldAddr (xv := Vp b7 0) (Vp b7 0) rfl rfl rfl (reads_field tfld29_0 _ _) ?_
 refine x_load (xv := Vp b7 0) (.agg #[Vi p1_0_0, Vl a_p1_0_1 p1_0_1 c_p1_0_1]) rfl rfl rfl (reads_boxagg 0 [Vi p1_0_0, Vl a_p1_0_1 p1_0_1 c_p1_0_1] tagg27 hb7 nn rfl) ?_
 obtain ⟨x9, hx, h⟩ := bind_some h
 have hpk : MS w7 ([] ++ [[b7], [b5], M]) := hms.pick [some 0, some 1, some 2] _ rfl
 have hsb0 : ∀ x ∈ fl ([] ++ [[b7], [b5], M]), x ∈ fl [[b7], [b5], M] := pick_sub [some 0, some 1, some 2] _ rfl
 have hsb : ∀ x ∈ fl ([] ++ [(fl [[b7], [b5], M])]), x ∈ fl [[b7], [b5], M] := fun x hx => hsb0 x (fl_unfold x hx)
 have hcall := gen_Plans_w p0_0_0 a_p0_0_1 c_p0_0_1 p0_0_1 p1_0_0 a_p1_0_1 c_p1_0_1 p1_0_1 _ w7 (fl [[b7], [b5], M]) (MS.fold (P := []) hpk) (hs_p0_0_1.sub hsb) (hs_p1_0_1.sub hsb) hx
 refine x_call 35 #[] #[] [.agg #[Vi p0_0_0, Vl a_p0_0_1 p0_0_1 c_p0_0_1], .agg #[Vi p1_0_0, Vl a_p1_0_1 p1_0_1 c_p1_0_1]] _ rfl rfl rfl rfl hcall ?_
 rintro v w10 ⟨rfl, he10⟩
 clear hcall hx
 refine inl1 ?_
 have hst := Stp.ext (ls := [[b7], [b5], M]) he10
 replace hs_p0_0_1 := hs_p0_0_1.step hst
 replace hs_p0_1 := hs_p0_1.step hst
 replace hs_p1_0_1 := hs_p1_0_1.step hst
 replace hs_p1_1 := hs_p1_1.step hst
 replace hb5 := he10.box hb5 nn
 replace hb7 := he10.box hb7 nn
 replace hms := hms.ev he10
 replace hev := hev.ext he10
 clear hpk hsb hsb0
 refine x_u 1 [(10, .bool x9)] ?_
 refine x_if 10 x9 rfl h (fun h => ?_) (fun h => ?_)
 · refine x_fieldAddr (xv := Vp b5 0) (Vp b5 2) rfl rfl rfl (reads_field tfld29_1 _ _) ?_
   refine x_load (xv := Vp b5 2) (Vl a_p0_1 p0_1 c_p0_1) rfl rfl rfl (reads_box tcell22 hb5 nn 2 _ rfl) ?_
   refine x_fieldAddr (xv := Vp b7 0) (Vp b7 2) rfl rfl rfl (reads_field tfld29_1 _ _) ?_
   refine x_load (xv := Vp b7 2) (Vl a_p1_1 p1_1 c_p1_1) rfl rfl rfl (reads_box tcell22 hb7 nn 2 _ rfl) ?_
   obtain ⟨x11, hx, h⟩ := bind_some h
   have hpk : MS w10 ([] ++ [[b7], [b5], M]) := hms.pick [some 0, some 1, some 2] _ rfl
   have hsb0 : ∀ x ∈ fl ([] ++ [[b7], [b5], M]), x ∈ fl [[b7], [b5], M] := pick_sub [some 0, some 1, some 2] _ rfl
   have hsb : ∀ x ∈ fl ([] ++ [(fl [[b7], [b5], M])]), x ∈ fl [[b7], [b5], M] := fun x hx => hsb0 x (fl_unfold x hx)
   have hcall := gen_Ints_w a_p0_1 c_p0_1 p0_1 a_p1_1 c_p1_1 p1_1 _ w10 (fl [[b7], [b5], M]) (MS.fold (P := []) hpk) (hs_p0_1.sub hsb) (hs_p1_1.sub hsb) hx
   refine x_call 36 #[] #[] [Vl a_p0_1 p0_1 c_p0_1, Vl a_p1_1 p1_1 c_p1_1] _ rfl rfl rfl rfl hcall ?_
   rintro v w12 ⟨rfl, he12⟩
   clear hcall hx
   refine inl1 ?_
   have hst := Stp.ext (ls := [[b7], [b5], M]) he12
   replace hs_p0_0_1 := hs_p0_0_1.step hst
   replace hs_p0_1 := hs_p0_1.step hst
   replace hs_p1_0_1 := hs_p1_0_1.step hst
   replace hs_p1_1 := hs_p1_1.step hst
   replace hb5 := he12.box hb5 nn
   replace hb7 := he12.box hb7 nn
   replace hms := hms.ev he12
   replace hev := hev.ext he12
   clear hpk hsb hsb0
   refine x_u 2 [(16, .bool x11), (4, .bool x11)] ?_
   refine x_ek ?_
   refine c_norm [(4, .bool x11)] ⟨rfl, trivial⟩ (fun J => ?_)
   refine c_ret ?_
   refine r_ret (r_vals [.bool x11] ⟨rfl, trivial⟩ ?_)
   have hx := some_inj h
   subst hx
   have hmr : MS w12 [M] := hms.pick [some 2] _ rfl
   have hsu : ∀ x ∈ fl [M], x ∈ fl [[b7], [b5], M] := pick_sub [some 2] _ rfl
   exact ⟨rfl, hev⟩
 refine x_u 7 [(11, undef), (12, undef), (13, undef), (14, undef), (15, undef), (16, .bool false), (4, .bool false)] ?_
 refine x_ek ?_
 refine c_norm [(4, .bool false)] ⟨rfl, trivial⟩ (fun J => ?_)
 refine c_ret ?_
 refine r_ret (r_vals [.bool false] ⟨rfl, trivial⟩ ?_)
 have hx := some_inj h
 subst hx
 have hmr : MS w10 [M] := hms.pick [some 2] _ rfl
 have hsu : ∀ x ∈ fl [M], x ∈ fl [[b7], [b5], M] := pick_sub [some 2] _ rfl
 exact ⟨rfl, hev⟩
def gen_Maker_Spoil (p0_0 : List Int) (p0_1 : Int) (p1 : List UInt8) : Option ((List UInt8) × Int) :=
(if (p1 == ([] : List UInt8)) = true then
((gen_Maker_Next p0_0 p0_1 256).bind fun x4 =>
some ((ofB ([IntKind.u8.wrap x4.1])), x4.2))
else
((gen_Maker_Next p0_0 p0_1 (p1.length : Int)).bind fun x8 =>
((gen_Maker_Next p0_0 x8.2 4).bind fun x11 =>
(if (x11.1 == 0) = true then
(if 0 ≤ ((0 : Int) : Int) ∧ ((0 : Int) : Int) ≤ (x8.1 : Int) ∧ (x8.1 : Int) ≤ (p1.length : Int) then
(if 0 ≤ (IntKind.i64.wrap (x8.1 + 1) : Int) ∧ (IntKind.i64.wrap (x8.1 + 1) : Int) ≤ ((p1.length : Int) : Int) ∧ ((p1.length : Int) : Int) ≤ (p1.length : Int) then
(if ((p1.drop (Int.toNat (0 : Int))).take (Int.toNat x8.1 - Int.toNat (0 : Int))).length + ((p1.drop (Int.toNat (IntKind.i64.wrap (x8.1 + 1)))).take (Int.toNat (p1.length : Int) - Int.toNat (IntKind.i64.wrap (x8.1 + 1)))).length ≤ 4294967296 then
some ((((p1.drop (Int.toNat (0 : Int))).take (Int.toNat x8.1 - Int.toNat (0 : Int))) ++ ((p1.drop (Int.toNat (IntKind.i64.wrap (x8.1 + 1)))).take (Int.toNat (p1.length : Int) - Int.toNat (IntKind.i64.wrap (x8.1 + 1))))), x11.2)
else none)
else none)
else none)
else
(if (x11.1 == 1) = true then
(if 0 ≤ ((0 : Int) : Int) ∧ ((0 : Int) : Int) ≤ (x8.1 : Int) ∧ (x8.1 : Int) ≤ (p1.length : Int) then
(if 0 ≤ (x8.1 : Int) ∧ (x8.1 : Int) ≤ ((p1.length : Int) : Int) ∧ ((p1.length : Int) : Int) ≤ (p1.length : Int) then
((gen_Maker_Next p0_0 x11.2 256).bind fun x13 =>
(if ((p1.drop (Int.toNat (0 : Int))).take (Int.toNat x8.1 - Int.toNat (0 : Int))).length + (ofB ([IntKind.u8.wrap x13.1])).length ≤ 4294967296 then
(if (((p1.drop (Int.toNat (0 : Int))).take (Int.toNat x8.1 - Int.toNat (0 : Int))) ++ (ofB ([IntKind.u8.wrap x13.1]))).length + ((p1.drop (Int.toNat x8.1)).take (Int.toNat (p1.length : Int) - Int.toNat x8.1)).length ≤ 4294967296 then
some (((((p1.drop (Int.toNat (0 : Int))).take (Int.toNat x8.1 - Int.toNat (0 : Int))) ++ (ofB ([IntKind.u8.wrap x13.1]))) ++ ((p1.drop (Int.toNat x8.1)).take (Int.toNat (p1.length : Int) - Int.toNat x8.1))), x13.2)
else none)
else none))
else none)
else none)
else
(if (x11.1 == 2) = true then
(if 0 ≤ ((0 : Int) : Int) ∧ ((0 : Int) : Int) ≤ (x8.1 : Int) ∧ (x8.1 : Int) ≤ (p1.length : Int) then
(if 0 ≤ (IntKind.i64.wrap (x8.1 + 1) : Int) ∧ (IntKind.i64.wrap (x8.1 + 1) : Int) ≤ ((p1.length : Int) : Int) ∧ ((p1.length : Int) : Int) ≤ (p1.length : Int) then
((gen_Maker_Next p0_0 x11.2 10).bind fun x17 =>
(if ((p1.drop (Int.toNat (0 : Int))).take (Int.toNat x8.1 - Int.toNat (0 : Int))).length + (ofB ([IntKind.u8.wrap (IntKind.i64.wrap (48 + x17.1))])).length ≤ 4294967296 then
(if (((p1.drop (Int.toNat (0 : Int))).take (Int.toNat x8.1 - Int.toNat (0 : Int))) ++ (ofB ([IntKind.u8.wrap (IntKind.i64.wrap (48 + x17.1))]))).length + ((p1.drop (Int.toNat (IntKind.i64.wrap (x8.1 + 1)))).take (Int.toNat (p1.length : Int) - Int.toNat (IntKind.i64.wrap (x8.1 + 1)))).length ≤ 4294967296 then
some (((((p1.drop (Int.toNat (0 : Int))).take (Int.toNat x8.1 - Int.toNat (0 : Int))) ++ (ofB ([IntKind.u8.wrap (IntKind.i64.wrap (48 + x17.1))]))) ++ ((p1.drop (Int.toNat (IntKind.i64.wrap (x8.1 + 1)))).take (Int.toNat (p1.length : Int) - Int.toNat (IntKind.i64.wrap (x8.1 + 1))))), x17.2)
else none)
else none))
else none)
else none)
else
(if 0 ≤ ((0 : Int) : Int) ∧ ((0 : Int) : Int) ≤ (x8.1 : Int) ∧ (x8.1 : Int) ≤ (p1.length : Int) then
(if 0 ≤ (IntKind.i64.wrap (x8.1 + 1) : Int) ∧ (IntKind.i64.wrap (x8.1 + 1) : Int) ≤ ((p1.length : Int) : Int) ∧ ((p1.length : Int) : Int) ≤ (p1.length : Int) then
((gen_Maker_Next p0_0 x11.2 256).bind fun x21 =>
(if ((p1.drop (Int.toNat (0 : Int))).take (Int.toNat x8.1 - Int.toNat (0 : Int))).length + (ofB ([IntKind.u8.wrap x21.1])).length ≤ 4294967296 then
(if (((p1.drop (Int.toNat (0 : Int))).take (Int.toNat x8.1 - Int.toNat (0 : Int))) ++ (ofB ([IntKind.u8.wrap x21.1]))).length + ((p1.drop (Int.toNat (IntKind.i64.wrap (x8.1 + 1)))).take (Int.toNat (p1.length : Int) - Int.toNat (IntKind.i64.wrap (x8.1 + 1)))).length ≤ 4294967296 then
some (((((p1.drop (Int.toNat (0 : Int))).take (Int.toNat x8.1 - Int.toNat (0 : Int))) ++ (ofB ([IntKind.u8.wrap x21.1]))) ++ ((p1.drop (Int.toNat (IntKind.i64.wrap (x8.1 + 1)))).take (Int.toNat (p1.length : Int) - Int.toNat (IntKind.i64.wrap (x8.1 + 1))))), x21.2)
else none)
else none))
else none)
else none)))))))

theorem gen_Maker_Spoil_w (b_p0 : Nat) (a_p0_0 : Option Addr) (c_p0_0 : Nat) (p0_0 : List Int) (p0_1 : Int) (p1 : List UInt8) (r : (List UInt8) × Int) (w : World) (M : List Nat) (hms : MS w [[b_p0], M]) (hs_p0_0 : SlR (eInt .i64) w (fl [[b_p0], M]) a_p0_0 c_p0_0 p0_0) (hb_p0 : w.heap[b_p0]? = some (.cells #[Vl a_p0_0 p0_0 c_p0_0, Vi p0_1] 65 (0, 0))) (h : gen_Maker_Spoil p0_0 p0_1 p1 = some r) : CallVC Try.prog 48 [Vp b_p0 0, Vs p1] w fun v w' => v = Vs r.1 ∧ Ev [b_p0] w w' ∧ w'.heap[b_p0]? = some (.cells #[Vl a_p0_0 p0_0 c_p0_0, Vi r.2] 65 (0, 0)) := by
 refine calls_vc hmx Try.func48 (by kernel_rfl) rfl (rs := [.tmp 4]) rfl (by kernel_rfl) (args := [Vp b_p0 0, Vs p1]) rfl ?_
 have hev : Ev [b_p0] w w := Ev.refl _ _
 have hfr : FR w.heap.size [] := FR.nil _
 refine c_sp ?_
 refine x_u 1 [(4, Vs ([] : List UInt8))] ?_
 refine x_ek ?_
 refine c_seq ?_
 refine c_sp ?_
 refine x_u 1 [(6, Vs p1)] ?_
 refine x_binop (.bool (p1 == ([] : List UInt8))) (Vs p1) (Vs ([] : List UInt8)) rfl rfl rfl rfl (bin_seq) ?_
 refine x_ek ?_
 refine c_if (p1 == ([] : List UInt8)) rfl h (fun h => ?_) (fun h => ?_)
 · refine c_sp ?_
   refine x_u 1 [(8, Vp b_p0 0)] ?_
   obtain ⟨x4, hx, h⟩ := bind_some h
   have hpk : MS w ([[b_p0]] ++ [M]) := hms.pick [some 0, some 1] _ rfl
   have hsb0 : ∀ x ∈ fl ([[b_p0]] ++ [M]), x ∈ fl [[b_p0], M] := pick_sub [some 0, some 1] _ rfl
   have hsb : ∀ x ∈ fl ([[b_p0]] ++ [(fl [M])]), x ∈ fl [[b_p0], M] := fun x hx => hsb0 x (fl_unfold x hx)
   have hcall := gen_Maker_Next_w b_p0 a_p0_0 c_p0_0 p0_0 p0_1 256 _ w (fl [M]) (hpk.fold (P := [[b_p0]])) (hs_p0_0.sub hsb) hb_p0 hx
   refine x_call 37 #[] #[] [Vp b_p0 0, Vi 256] _ rfl rfl rfl rfl hcall ?_
   rintro v w5 ⟨rfl, he5, hp5_0⟩
   clear hcall hx
   refine inl1 ?_
   have hpk2 : MS w ([[b_p0]] ++ [M]) := hms.pick [some 0, some 1] _ rfl
   have hsb2 : ∀ x ∈ fl ([[b_p0]] ++ [M]), x ∈ fl [[b_p0], M] := pick_sub [some 0, some 1] _ rfl
   have hst0 := Stp.call (LS := [[b_p0], M]) (res := []) (par := [[b_p0]]) (R := [M]) he5 (fun b hb => hsb2 b (fl_left' (P := [[b_p0]]) b hb)) (FR.nil _) (NP.init _ _) (fun x hx => hsb2 x (fl_right' (P := [[b_p0]]) x hx))
   have hsn : ∀ x ∈ fl [[b_p0], M], x ∈ fl ([] ++ ([[b_p0]] ++ [M])) := pick_sub [some 0, some 1] _ rfl
   have hst := hst0.res hsn
   replace hs_p0_0 := hs_p0_0.step hst
   replace hms := hms.ev he5
   replace hev := hev.then he5 (fun b hb => .inl (by simpa using hb))
   replace hb_p0 := hp5_0
   clear hpk hsb hsb0 hpk2 hsb2 hst0 hsn hst
   refine x_convert (.int .u8 (IntKind.u8.wrap x4.1)) _ rfl rfl rfl (tcv3_5 x4.1 _) ?_
   refine inl1 ?_
   refine x_buildSlice (vs := [(0, .int .u8 (IntKind.u8.wrap x4.1))]) #[.int .u8 (IntKind.u8.wrap x4.1)] 5 rfl rfl rfl (by kernel_rfl) (fun b6 w6 hq6 hb6 he6 hz6 => ?_)
   refine inl1 ?_
   have hms0 := hms
   have hst := Stp.ext (ls := [[b_p0], M]) he6
   replace hs_p0_0 := hs_p0_0.step hst
   replace hb_p0 := he6.box hb_p0 nn
   replace hms := hms.ev he6
   replace hev := hev.ext he6
   have hs6 : SlR (eInt .u8) w6 (fl [[b_p0], M]) (Ad b6 0) 1 ([IntKind.u8.wrap x4.1]) := ro_of_box hms0 hq6 hb6 rfl rfl (cells_at (cs := [.int .u8 (IntKind.u8.wrap x4.1)]) (CellsOf.cons (c := [.int .u8 (IntKind.u8.wrap x4.1)]) rfl CellsOf.nil))
   clear hb6 hms0
   refine x_convert (xv := .slice (Ad b6 0) ([IntKind.u8.wrap x4.1]).length 1) (Vs (ofB ([IntKind.u8.wrap x4.1]))) _ rfl rfl rfl (run_ofB tuns46 tint5 tstr9 hs6) ?_
   refine inl1 ?_
   refine x_u 1 [(4, Vs (ofB ([IntKind.u8.wrap x4.1])))] ?_
   refine x_ek ?_
   refine c_ret ?_
   refine k_then_ret ?_
   refine r_ret (r_vals [Vs (ofB ([IntKind.u8.wrap x4.1]))] ⟨rfl, trivial⟩ ?_)
   have hx := some_inj h
   subst hx
   have hmr : MS w6 [[b_p0], M] := hms.pick [some 0, some 1] _ rfl
   have hsu : ∀ x ∈ fl [[b_p0], M], x ∈ fl [[b_p0], M] := pick_sub [some 0, some 1] _ rfl
   exact ⟨rfl, hev, hb_p0⟩
 refine c_skip ?_
 refine k_then ?_
 refine c_sp ?_
 refine x_u 2 [(13, Vp b_p0 0), (14, Vs p1)] ?_
 refine x_len (vs := [Vs p1]) (Vi (p1.length : Int)) rfl rfl rfl (reads_slen tstr9 _) ?_
 obtain ⟨x8, hx, h⟩ := bind_some h
 have hpk : MS w ([[b_p0]] ++ [M]) := hms.pick [some 0, some 1] _ rfl
 have hsb0 : ∀ x ∈ fl ([[b_p0]] ++ [M]), x ∈ fl [[b_p0], M] := pick_sub [some 0, some 1] _ rfl
 have hsb : ∀ x ∈ fl ([[b_p0]] ++ [(fl [M])]), x ∈ fl [[b_p0], M] := fun x hx => hsb0 x (fl_unfold x hx)
 have hcall := gen_Maker_Next_w b_p0 a_p0_0 c_p0_0 p0_0 p0_1 (p1.length : Int) _ w (fl [M]) (hpk.fold (P := [[b_p0]])) (hs_p0_0.sub hsb) hb_p0 hx
 refine x_call 37 #[] #[] [Vp b_p0 0, Vi (p1.length : Int)] _ rfl rfl rfl rfl hcall ?_
 rintro v w9 ⟨rfl, he9, hp9_0⟩
 clear hcall hx
 refine inl1 ?_
 have hpk2 : MS w ([[b_p0]] ++ [M]) := hms.pick [some 0, some 1] _ rfl
 have hsb2 : ∀ x ∈ fl ([[b_p0]] ++ [M]), x ∈ fl [[b_p0], M] := pick_sub [some 0, some 1] _ rfl
 have hst0 := Stp.call (LS := [[b_p0], M]) (res := []) (par := [[b_p0]]) (R := [M]) he9 (fun b hb => hsb2 b (fl_left' (P := [[b_p0]]) b hb)) (FR.nil _) (NP.init _ _) (fun x hx => hsb2 x (fl_right' (P := [[b_p0]]) x hx))
 have hsn : ∀ x ∈ fl [[b_p0], M], x ∈ fl ([] ++ ([[b_p0]] ++ [M])) := pick_sub [some 0, some 1] _ rfl
 have hst := hst0.res hsn
 replace hs_p0_0 := hs_p0_0.step hst
 replace hms := hms.ev he9
 replace hev := hev.then he9 (fun b hb => .inl (by simpa using hb))
 replace hb_p0 := hp9_0
 clear hpk hsb hsb0 hpk2 hsb2 hst0 hsn hst
 refine x_u 1 [(5, Vi x8.1)] ?_
 refine x_ek ?_
 refine c_seq ?_
 refine c_sp ?_
 refine x_u 1 [(17, Vp b_p0 0)] ?_
 obtain ⟨x11, hx, h⟩ := bind_some h
 have hpk : MS w9 ([[b_p0]] ++ [M]) := hms.pick [some 0, some 1] _ rfl
 have hsb0 : ∀ x ∈ fl ([[b_p0]] ++ [M]), x ∈ fl [[b_p0], M] := pick_sub [some 0, some 1] _ rfl
 have hsb : ∀ x ∈ fl ([[b_p0]] ++ [(fl [M])]), x ∈ fl [[b_p0], M] := fun x hx => hsb0 x (fl_unfold x hx)
 have hcall := gen_Maker_Next_w b_p0 a_p0_0 c_p0_0 p0_0 x8.2 4 _ w9 (fl [M]) (hpk.fold (P := [[b_p0]])) (hs_p0_0.sub hsb) hb_p0 hx
 refine x_call 37 #[] #[] [Vp b_p0 0, Vi 4] _ rfl rfl rfl rfl hcall ?_
 rintro v w12 ⟨rfl, he12, hp12_0⟩
 clear hcall hx
 refine inl1 ?_
 have hpk2 : MS w9 ([[b_p0]] ++ [M]) := hms.pick [some 0, some 1] _ rfl
 have hsb2 : ∀ x ∈ fl ([[b_p0]] ++ [M]), x ∈ fl [[b_p0], M] := pick_sub [some 0, some 1] _ rfl
 have hst0 := Stp.call (LS := [[b_p0], M]) (res := []) (par := [[b_p0]]) (R := [M]) he12 (fun b hb => hsb2 b (fl_left' (P := [[b_p0]]) b hb)) (FR.nil _) (NP.init _ _) (fun x hx => hsb2 x (fl_right' (P := [[b_p0]]) x hx))
 have hsn : ∀ x ∈ fl [[b_p0], M], x ∈ fl ([] ++ ([[b_p0]] ++ [M])) := pick_sub [some 0, some 1] _ rfl
 have hst := hst0.res hsn
 replace hs_p0_0 := hs_p0_0.step hst
 replace hms := hms.ev he12
 replace hev := hev.then he12 (fun b hb => .inl (by simpa using hb))
 replace hb_p0 := hp12_0
 clear hpk hsb hsb0 hpk2 hsb2 hst0 hsn hst
 refine x_ek ?_
 refine c_block ?_
 refine c_sp ?_
 refine x_u 2 [(20, .bool (x11.1 == 0)), (19, .bool (x11.1 == 0))] ?_
 refine x_ek ?_
 refine c_if (x11.1 == 0) rfl h (fun h => ?_) (fun h => ?_)
 · refine c_seq ?_
   refine c_drawn [] [(0, false), (1, false), (2, false), (3, false), (4, false), (5, false), (6, false), (7, false), (8, false)] _ (by kernel_rfl) rfl ?_
   have hst := Stp.ext (ls := [[b_p0], M]) (Ev.drew w12)
   replace hs_p0_0 := hs_p0_0.step hst
   replace hb_p0 := (Ev.drew w12).box hb_p0 nn
   replace hms := hms.ev (Ev.drew w12)
   replace hev := hev.ext (Ev.drew w12)
   refine x_u 2 [(21, Vs p1), (22, Vi x8.1)] ?_
   have hg := guard_l h
   replace h := guard_r h
   refine x_slice (xv := Vs p1) (lv := none) (hv := (some (Vi x8.1))) (mv := none) (Vs ((p1.drop (Int.toNat (0 : Int))).take (Int.toNat x8.1 - Int.toNat (0 : Int)))) rfl rfl rfl rfl rfl rfl (reads_scut tstr9 _ none (some x8.1) hg) ?_
   refine x_u 3 [(24, Vs p1), (25, Vi x8.1), (26, Vi (IntKind.i64.wrap (x8.1 + 1)))] ?_
   have hg := guard_l h
   replace h := guard_r h
   refine x_slice (xv := Vs p1) (lv := (some (Vi (IntKind.i64.wrap (x8.1 + 1))))) (hv := none) (mv := none) (Vs ((p1.drop (Int.toNat (IntKind.i64.wrap (x8.1 + 1)))).take (Int.toNat (p1.length : Int) - Int.toNat (IntKind.i64.wrap (x8.1 + 1))))) rfl rfl rfl rfl rfl rfl (reads_scut tstr9 _ (some (IntKind.i64.wrap (x8.1 + 1))) none hg) ?_
   refine x_binop (Vs (((p1.drop (Int.toNat (0 : Int))).take (Int.toNat x8.1 - Int.toNat (0 : Int))) ++ ((p1.drop (Int.toNat (IntKind.i64.wrap (x8.1 + 1)))).take (Int.toNat (p1.length : Int) - Int.toNat (IntKind.i64.wrap (x8.1 + 1)))))) (Vs ((p1.drop (Int.toNat (0 : Int))).take (Int.toNat x8.1 - Int.toNat (0 : Int)))) (Vs ((p1.drop (Int.toNat (IntKind.i64.wrap (x8.1 + 1)))).take (Int.toNat (p1.length : Int) - Int.toNat (IntKind.i64.wrap (x8.1 + 1))))) rfl rfl rfl rfl (bin_sadd (guard_l h)) ?_
   replace h := guard_r h
   refine x_u 1 [(4, Vs (((p1.drop (Int.toNat (0 : Int))).take (Int.toNat x8.1 - Int.toNat (0 : Int))) ++ ((p1.drop (Int.toNat (IntKind.i64.wrap (x8.1 + 1)))).take (Int.toNat (p1.length : Int) - Int.toNat (IntKind.i64.wrap (x8.1 + 1))))))] ?_
   refine x_ek ?_
   refine c_norm [(4, Vs (((p1.drop (Int.toNat (0 : Int))).take (Int.toNat x8.1 - Int.toNat (0 : Int))) ++ ((p1.drop (Int.toNat (IntKind.i64.wrap (x8.1 + 1)))).take (Int.toNat (p1.length : Int) - Int.toNat (IntKind.i64.wrap (x8.1 + 1))))))] ⟨rfl, trivial⟩ (fun J => ?_)
   refine c_ret ?_
   refine k_block_ret ?_
   refine k_then_ret ?_
   refine r_ret (r_vals [Vs (((p1.drop (Int.toNat (0 : Int))).take (Int.toNat x8.1 - Int.toNat (0 : Int))) ++ ((p1.drop (Int.toNat (IntKind.i64.wrap (x8.1 + 1)))).take (Int.toNat (p1.length : Int) - Int.toNat (IntKind.i64.wrap (x8.1 + 1)))))] ⟨rfl, trivial⟩ ?_)
   have hx := some_inj h
   subst hx
   have hmr : MS (w12).drew [[b_p0], M] := hms.pick [some 0, some 1] _ rfl
   have hsu : ∀ x ∈ fl [[b_p0], M], x ∈ fl [[b_p0], M] := pick_sub [some 0, some 1] _ rfl
   exact ⟨rfl, hev, hb_p0⟩
 refine c_sp ?_
 refine x_u 2 [(30, .bool (x11.1 == 1)), (29, .bool (x11.1 == 1))] ?_
 refine x_ek ?_
 refine c_norm [(0, Vp b_p0 0), (1, Vs p1), (5, Vi x8.1), (18, Vi x11.1), (29, .bool (x11.1 == 1))] ⟨rfl, rfl, rfl, rfl, rfl, trivial⟩ (fun J => ?_)
 refine c_if (x11.1 == 1) rfl h (fun h => ?_) (fun h => ?_)
 · refine c_seq ?_
   refine c_drawn [b_p0] [(0, false), (1, false), (2, false), (3, true), (9, false), (10, false), (11, false), (4, false), (5, false), (6, false), (7, false), (8, true), (12, true), (13, true)] _ (by kernel_rfl) rfl ?_
   have hst := Stp.ext (ls := [[b_p0], M]) (Ev.drew w12)
   replace hs_p0_0 := hs_p0_0.step hst
   replace hb_p0 := (Ev.drew w12).box hb_p0 nn
   replace hms := hms.ev (Ev.drew w12)
   replace hev := hev.ext (Ev.drew w12)
   refine x_u 2 [(31, Vs p1), (32, Vi x8.1)] ?_
   have hg := guard_l h
   replace h := guard_r h
   refine x_slice (xv := Vs p1) (lv := none) (hv := (some (Vi x8.1))) (mv := none) (Vs ((p1.drop (Int.toNat (0 : Int))).take (Int.toNat x8.1 - Int.toNat (0 : Int)))) rfl rfl rfl rfl rfl rfl (reads_scut tstr9 _ none (some x8.1) hg) ?_
   refine x_u 3 [(34, Vp b_p0 0), (40, Vs p1), (41, Vi x8.1)] ?_
   have hg := guard_l h
   replace h := guard_r h
   refine x_slice (xv := Vs p1) (lv := (some (Vi x8.1))) (hv := none) (mv := none) (Vs ((p1.drop (Int.toNat x8.1)).take (Int.toNat (p1.length : Int) - Int.toNat x8.1))) rfl rfl rfl rfl rfl rfl (reads_scut tstr9 _ (some x8.1) none hg) ?_
   obtain ⟨x13, hx, h⟩ := bind_some h
   have hpk : MS (w12).drew ([[b_p0]] ++ [M]) := hms.pick [some 0, some 1] _ rfl
   have hsb0 : ∀ x ∈ fl ([[b_p0]] ++ [M]), x ∈ fl [[b_p0], M] := pick_sub [some 0, some 1] _ rfl
   have hsb : ∀ x ∈ fl ([[b_p0]] ++ [(fl [M])]), x ∈ fl [[b_p0], M] := fun x hx => hsb0 x (fl_unfold x hx)
   have hcall := gen_Maker_Next_w b_p0 a_p0_0 c_p0_0 p0_0 x11.2 256 _ (w12).drew (fl [M]) (hpk.fold (P := [[b_p0]])) (hs_p0_0.sub hsb) hb_p0 hx
   refine x_call 37 #[] #[] [Vp b_p0 0, Vi 256] _ rfl rfl rfl rfl hcall ?_
   rintro v w14 ⟨rfl, he14, hp14_0⟩
   clear hcall hx
   refine ⟨.inr he14, ?_⟩
   have hpk2 : MS (w12).drew ([[b_p0]] ++ [M]) := hms.pick [some 0, some 1] _ rfl
   have hsb2 : ∀ x ∈ fl ([[b_p0]] ++ [M]), x ∈ fl [[b_p0], M] := pick_sub [some 0, some 1] _ rfl
   have hst0 := Stp.call (LS := [[b_p0], M]) (res := []) (par := [[b_p0]]) (R := [M]) he14 (fun b hb => hsb2 b (fl_left' (P := [[b_p0]]) b hb)) (FR.nil _) (NP.init _ _) (fun x hx => hsb2 x (fl_right' (P := [[b_p0]]) x hx))
   have hsn : ∀ x ∈ fl [[b_p0], M], x ∈ fl ([] ++ ([[b_p0]] ++ [M])) := pick_sub [some 0, some 1] _ rfl
   have hst := hst0.res hsn
   replace hs_p0_0 := hs_p0_0.step hst
   replace hms := hms.ev he14
   replace hev := hev.then he14 (fun b hb => .inl (by simpa using hb))
   replace hb_p0 := hp14_0
   clear hpk hsb hsb0 hpk2 hsb2 hst0 hsn hst
   refine x_convert (.int .u8 (IntKind.u8.wrap x13.1)) _ rfl rfl rfl (tcv3_5 x13.1 _) ?_
   refine ⟨.inr (Ev.refl _ _), ?_⟩
   refine x_buildSlice (vs := [(0, .int .u8 (IntKind.u8.wrap x13.1))]) #[.int .u8 (IntKind.u8.wrap x13.1)] 5 rfl rfl rfl (by kernel_rfl) (fun b15 w15 hq15 hb15 he15 hz15 => ?_)
   refine ⟨.inr (he15.nil), ?_⟩
   have hms0 := hms
   have hst := Stp.ext (ls := [[b_p0], M]) he15
   replace hs_p0_0 := hs_p0_0.step hst
   replace hb_p0 := he15.box hb_p0 nn
   replace hms := hms.ev he15
   replace hev := hev.ext he15
   have hs15 : SlR (eInt .u8) w15 (fl [[b_p0], M]) (Ad b15 0) 1 ([IntKind.u8.wrap x13.1]) := ro_of_box hms0 hq15 hb15 rfl rfl (cells_at (cs := [.int .u8 (IntKind.u8.wrap x13.1)]) (CellsOf.cons (c := [.int .u8 (IntKind.u8.wrap x13.1)]) rfl CellsOf.nil))
   clear hb15 hms0
   refine x_convert (xv := .slice (Ad b15 0) ([IntKind.u8.wrap x13.1]).length 1) (Vs (ofB ([IntKind.u8.wrap x13.1]))) _ rfl rfl rfl (run_ofB tuns46 tint5 tstr9 hs15) ?_
   refine ⟨.inr (Ev.refl _ _), ?_⟩
   refine x_binop (Vs (((p1.drop (Int.toNat (0 : Int))).take (Int.toNat x8.1 - Int.toNat (0 : Int))) ++ (ofB ([IntKind.u8.wrap x13.1])))) (Vs ((p1.drop (Int.toNat (0 : Int))).take (Int.toNat x8.1 - Int.toNat (0 : Int)))) (Vs (ofB ([IntKind.u8.wrap x13.1]))) rfl rfl rfl rfl (bin_sadd (guard_l h)) ?_
   replace h := guard_r h
   refine x_binop (Vs ((((p1.drop (Int.toNat (0 : Int))).take (Int.toNat x8.1 - Int.toNat (0 : Int))) ++ (ofB ([IntKind.u8.wrap x13.1]))) ++ ((p1.drop (Int.toNat x8.1)).take (Int.toNat (p1.length : Int) - Int.toNat x8.1)))) (Vs (((p1.drop (Int.toNat (0 : Int))).take (Int.toNat x8.1 - Int.toNat (0 : Int))) ++ (ofB ([IntKind.u8.wrap x13.1])))) (Vs ((p1.drop (Int.toNat x8.1)).take (Int.toNat (p1.length : Int) - Int.toNat x8.1))) rfl rfl rfl rfl (bin_sadd (guard_l h)) ?_
   replace h := guard_r h
   refine x_u 1 [(4, Vs ((((p1.drop (Int.toNat (0 : Int))).take (Int.toNat x8.1 - Int.toNat (0 : Int))) ++ (ofB ([IntKind.u8.wrap x13.1]))) ++ ((p1.drop (Int.toNat x8.1)).take (Int.toNat (p1.length : Int) - Int.toNat x8.1))))] ?_
   refine x_ek ?_
   refine c_norm [(4, Vs ((((p1.drop (Int.toNat (0 : Int))).take (Int.toNat x8.1 - Int.toNat (0 : Int))) ++ (ofB ([IntKind.u8.wrap x13.1]))) ++ ((p1.drop (Int.toNat x8.1)).take (Int.toNat (p1.length : Int) - Int.toNat x8.1))))] ⟨rfl, trivial⟩ (fun J => ?_)
   refine c_ret ?_
   refine k_block_ret ?_
   refine k_then_ret ?_
   refine r_ret (r_vals [Vs ((((p1.drop (Int.toNat (0 : Int))).take (Int.toNat x8.1 - Int.toNat (0 : Int))) ++ (ofB ([IntKind.u8.wrap x13.1]))) ++ ((p1.drop (Int.toNat x8.1)).take (Int.toNat (p1.length : Int) - Int.toNat x8.1)))] ⟨rfl, trivial⟩ ?_)
   have hx := some_inj h
   subst hx
   have hmr : MS w15 [[b_p0], M] := hms.pick [some 0, some 1] _ rfl
   have hsu : ∀ x ∈ fl [[b_p0], M], x ∈ fl [[b_p0], M] := pick_sub [some 0, some 1] _ rfl
   exact ⟨rfl, hev, hb_p0⟩
 refine c_sp ?_
 refine x_u 2 [(45, .bool (x11.1 == 2)), (44, .bool (x11.1 == 2))] ?_
 refine x_ek ?_
 refine c_if (x11.1 == 2) rfl h (fun h => ?_) (fun h => ?_)
 · refine c_seq ?_
   refine c_drawn [b_p0] [(0, false), (1, false), (2, false), (3, true), (10, false), (11, false), (12, false), (13, false), (4, false), (5, true), (6, false), (7, false), (8, false), (9, true), (14, false), (15, true)] _ (by kernel_rfl) rfl ?_
   have hst := Stp.ext (ls := [[b_p0], M]) (Ev.drew w12)
   replace hs_p0_0 := hs_p0_0.step hst
   replace hb_p0 := (Ev.drew w12).box hb_p0 nn
   replace hms := hms.ev (Ev.drew w12)
   replace hev := hev.ext (Ev.drew w12)
   refine x_u 2 [(46, Vs p1), (47, Vi x8.1)] ?_
   have hg := guard_l h
   replace h := guard_r h
   refine x_slice (xv := Vs p1) (lv := none) (hv := (some (Vi x8.1))) (mv := none) (Vs ((p1.drop (Int.toNat (0 : Int))).take (Int.toNat x8.1 - Int.toNat (0 : Int)))) rfl rfl rfl rfl rfl rfl (reads_scut tstr9 _ none (some x8.1) hg) ?_
   refine x_u 4 [(49, Vp b_p0 0), (56, Vs p1), (57, Vi x8.1), (58, Vi (IntKind.i64.wrap (x8.1 + 1)))] ?_
   have hg := guard_l h
   replace h := guard_r h
   refine x_slice (xv := Vs p1) (lv := (some (Vi (IntKind.i64.wrap (x8.1 + 1))))) (hv := none) (mv := none) (Vs ((p1.drop (Int.toNat (IntKind.i64.wrap (x8.1 + 1)))).take (Int.toNat (p1.length : Int) - Int.toNat (IntKind.i64.wrap (x8.1 + 1))))) rfl rfl rfl rfl rfl rfl (reads_scut tstr9 _ (some (IntKind.i64.wrap (x8.1 + 1))) none hg) ?_
   obtain ⟨x17, hx, h⟩ := bind_some h
   have hpk : MS (w12).drew ([[b_p0]] ++ [M]) := hms.pick [some 0, some 1] _ rfl
   have hsb0 : ∀ x ∈ fl ([[b_p0]] ++ [M]), x ∈ fl [[b_p0], M] := pick_sub [some 0, some 1] _ rfl
   have hsb : ∀ x ∈ fl ([[b_p0]] ++ [(fl [M])]), x ∈ fl [[b_p0], M] := fun x hx => hsb0 x (fl_unfold x hx)
   have hcall := gen_Maker_Next_w b_p0 a_p0_0 c_p0_0 p0_0 x11.2 10 _ (w12).drew (fl [M]) (hpk.fold (P := [[b_p0]])) (hs_p0_0.sub hsb) hb_p0 hx
   refine x_call 37 #[] #[] [Vp b_p0 0, Vi 10] _ rfl rfl rfl rfl hcall ?_
   rintro v w18 ⟨rfl, he18, hp18_0⟩
   clear hcall hx
   refine ⟨.inr he18, ?_⟩
   have hpk2 : MS (w12).drew ([[b_p0]] ++ [M]) := hms.pick [some 0, some 1] _ rfl
   have hsb2 : ∀ x ∈ fl ([[b_p0]] ++ [M]), x ∈ fl [[b_p0], M] := pick_sub [some 0, some 1] _ rfl
   have hst0 := Stp.call (LS := [[b_p0], M]) (res := []) (par := [[b_p0]]) (R := [M]) he18 (fun b hb => hsb2 b (fl_left' (P := [[b_p0]]) b hb)) (FR.nil _) (NP.init _ _) (fun x hx => hsb2 x (fl_right' (P := [[b_p0]]) x hx))
   have hsn : ∀ x ∈ fl [[b_p0], M], x ∈ fl ([] ++ ([[b_p0]] ++ [M])) := pick_sub [some 0, some 1] _ rfl
   have hst := hst0.res hsn
   replace hs_p0_0 := hs_p0_0.step hst
   replace hms := hms.ev he18
   replace hev := hev.then he18 (fun b hb => .inl (by simpa using hb))
   replace hb_p0 := hp18_0
   clear hpk hsb hsb0 hpk2 hsb2 hst0 hsn hst
   refine x_u 1 [(51, Vi (IntKind.i64.wrap (48 + x17.1)))] ?_
   refine x_convert (.int .u8 (IntKind.u8.wrap (IntKind.i64.wrap (48 + x17.1)))) _ rfl rfl rfl (tcv3_5 (IntKind.i64.wrap (48 + x17.1)) _) ?_
   refine ⟨.inr (Ev.refl _ _), ?_⟩
   refine x_buildSlice (vs := [(0, .int .u8 (IntKind.u8.wrap (IntKind.i64.wrap (48 + x17.1))))]) #[.int .u8 (IntKind.u8.wrap (IntKind.i64.wrap (48 + x17.1)))] 5 rfl rfl rfl (by kernel_rfl) (fun b19 w19 hq19 hb19 he19 hz19 => ?_)
   refine ⟨.inr (he19.nil), ?_⟩
   have hms0 := hms
   have hst := Stp.ext (ls := [[b_p0], M]) he19
   replace hs_p0_0 := hs_p0_0.step hst
   replace hb_p0 := he19.box hb_p0 nn
   replace hms := hms.ev he19
   replace hev := hev.ext he19
   have hs19 : SlR (eInt .u8) w19 (fl [[b_p0], M]) (Ad b19 0) 1 ([IntKind.u8.wrap (IntKind.i64.wrap (48 + x17.1))]) := ro_of_box hms0 hq19 hb19 rfl rfl (cells_at (cs := [.int .u8 (IntKind.u8.wrap (IntKind.i64.wrap (48 + x17.1)))]) (CellsOf.cons (c := [.int .u8 (IntKind.u8.wrap (IntKind.i64.wrap (48 + x17.1)))]) rfl CellsOf.nil))
   clear hb19 hms0
   refine x_convert (xv := .slice (Ad b19 0) ([IntKind.u8.wrap (IntKind.i64.wrap (48 + x17.1))]).length 1) (Vs (ofB ([IntKind.u8.wrap (IntKind.i64.wrap (48 + x17.1))]))) _ rfl rfl rfl (run_ofB tuns46 tint5 tstr9 hs19) ?_
   refine ⟨.inr (Ev.refl _ _), ?_⟩
   refine x_binop (Vs (((p1.drop (Int.toNat (0 : Int))).take (Int.toNat x8.1 - Int.toNat (0 : Int))) ++ (ofB ([IntKind.u8.wrap (IntKind.i64.wrap (48 + x17.1))])))) (Vs ((p1.drop (Int.toNat (0 : Int))).take (Int.toNat x8.1 - Int.toNat (0 : Int)))) (Vs (ofB ([IntKind.u8.wrap (IntKind.i64.wrap (48 + x17.1))]))) rfl rfl rfl rfl (bin_sadd (guard_l h)) ?_
   replace h := guard_r h
   refine x_binop (Vs ((((p1.drop (Int.toNat (0 : Int))).take (Int.toNat x8.1 - Int.toNat (0 : Int))) ++ (ofB ([IntKind.u8.wrap (IntKind.i64.wrap (48 + x17.1))]))) ++ ((p1.drop (Int.toNat (IntKind.i64.wrap (x8.1 + 1)))).take (Int.toNat (p1.length : Int) - Int.toNat (IntKind.i64.wrap (x8.1 + 1)))))) (Vs (((p1.drop (Int.toNat (0 : Int))).take (Int.toNat x8.1 - Int.toNat (0 : Int))) ++ (ofB ([IntKind.u8.wrap (IntKind.i64.wrap (48 + x17.1))])))) (Vs ((p1.drop (Int.toNat (IntKind.i64.wrap (x8.1 + 1)))).take (Int.toNat (p1.length : Int) - Int.toNat (IntKind.i64.wrap (x8.1 + 1))))) rfl rfl rfl rfl (bin_sadd (guard_l h)) ?_
   replace h := guard_r h
   refine x_u 1 [(4, Vs ((((p1.drop (Int.toNat (0 : Int))).take (Int.toNat x8.1 - Int.toNat (0 : Int))) ++ (ofB ([IntKind.u8.wrap (IntKind.i64.wrap (48 + x17.1))]))) ++ ((p1.drop (Int.toNat (IntKind.i64.wrap (x8.1 + 1)))).take (Int.toNat (p1.length : Int) - Int.toNat (IntKind.i64.wrap (x8.1 + 1))))))] ?_
   refine x_ek ?_
   refine c_norm [(4, Vs ((((p1.drop (Int.toNat (0 : Int))).take (Int.toNat x8.1 - Int.toNat (0 : Int))) ++ (ofB ([IntKind.u8.wrap (IntKind.i64.wrap (48 + x17.1))]))) ++ ((p1.drop (Int.toNat (IntKind.i64.wrap (x8.1 + 1)))).take (Int.toNat (p1.length : Int) - Int.toNat (IntKind.i64.wrap (x8.1 + 1))))))] ⟨rfl, trivial⟩ (fun J => ?_)
   refine c_ret ?_
   refine k_block_ret ?_
   refine k_then_ret ?_
   refine r_ret (r_vals [Vs ((((p1.drop (Int.toNat (0 : Int))).take (Int.toNat x8.1 - Int.toNat (0 : Int))) ++ (ofB ([IntKind.u8.wrap (IntKind.i64.wrap (48 + x17.1))]))) ++ ((p1.drop (Int.toNat (IntKind.i64.wrap (x8.1 + 1)))).take (Int.toNat (p1.length : Int) - Int.toNat (IntKind.i64.wrap (x8.1 + 1)))))] ⟨rfl, trivial⟩ ?_)
   have hx := some_inj h
   subst hx
   have hmr : MS w19 [[b_p0], M] := hms.pick [some 0, some 1] _ rfl
   have hsu : ∀ x ∈ fl [[b_p0], M], x ∈ fl [[b_p0], M] := pick_sub [some 0, some 1] _ rfl
   exact ⟨rfl, hev, hb_p0⟩
 refine c_skip ?_
 refine k_block ?_
 refine k_then ?_
 refine c_seq ?_
 refine c_drawn [b_p0] [(0, false), (1, false), (2, false), (3, true), (9, false), (10, false), (11, false), (12, false), (4, false), (5, false), (6, false), (7, false), (8, true), (13, true), (14, true)] _ (by kernel_rfl) rfl ?_
 have hst := Stp.ext (ls := [[b_p0], M]) (Ev.drew w12)
 replace hs_p0_0 := hs_p0_0.step hst
 replace hb_p0 := (Ev.drew w12).box hb_p0 nn
 replace hms := hms.ev (Ev.drew w12)
 replace hev := hev.ext (Ev.drew w12)
 refine x_u 2 [(61, Vs p1), (62, Vi x8.1)] ?_
 have hg := guard_l h
 replace h := guard_r h
 refine x_slice (xv := Vs p1) (lv := none) (hv := (some (Vi x8.1))) (mv := none) (Vs ((p1.drop (Int.toNat (0 : Int))).take (Int.toNat x8.1 - Int.toNat (0 : Int)))) rfl rfl rfl rfl rfl rfl (reads_scut tstr9 _ none (some x8.1) hg) ?_
 refine x_u 4 [(64, Vp b_p0 0), (70, Vs p1), (71, Vi x8.1), (72, Vi (IntKind.i64.wrap (x8.1 + 1)))] ?_
 have hg := guard_l h
 replace h := guard_r h
 refine x_slice (xv := Vs p1) (lv := (some (Vi (IntKind.i64.wrap (x8.1 + 1))))) (hv := none) (mv := none) (Vs ((p1.drop (Int.toNat (IntKind.i64.wrap (x8.1 + 1)))).take (Int.toNat (p1.length : Int) - Int.toNat (IntKind.i64.wrap (x8.1 + 1))))) rfl rfl rfl rfl rfl rfl (reads_scut tstr9 _ (some (IntKind.i64.wrap (x8.1 + 1))) none hg) ?_
 obtain ⟨x21, hx, h⟩ := bind_some h
 have hpk : MS (w12).drew ([[b_p0]] ++ [M]) := hms.pick [some 0, some 1] _ rfl
 have hsb0 : ∀ x ∈ fl ([[b_p0]] ++ [M]), x ∈ fl [[b_p0], M] := pick_sub [some 0, some 1] _ rfl
 have hsb : ∀ x ∈ fl ([[b_p0]] ++ [(fl [M])]), x ∈ fl [[b_p0], M] := fun x hx => hsb0 x (fl_unfold x hx)
 have hcall := gen_Maker_Next_w b_p0 a_p0_0 c_p0_0 p0_0 x11.2 256 _ (w12).drew (fl [M]) (hpk.fold (P := [[b_p0]])) (hs_p0_0.sub hsb) hb_p0 hx
 refine x_call 37 #[] #[] [Vp b_p0 0, Vi 256] _ rfl rfl rfl rfl hcall ?_
 rintro v w22 ⟨rfl, he22, hp22_0⟩
 clear hcall hx
 refine ⟨.inr he22, ?_⟩
 have hpk2 : MS (w12).drew ([[b_p0]] ++ [M]) := hms.pick [some 0, some 1] _ rfl
 have hsb2 : ∀ x ∈ fl ([[b_p0]] ++ [M]), x ∈ fl [[b_p0], M] := pick_sub [some 0, some 1] _ rfl
 have hst0 := Stp.call (LS := [[b_p0], M]) (res := []) (par := [[b_p0]]) (R := [M]) he22 (fun b hb => hsb2 b (fl_left' (P := [[b_p0]]) b hb)) (FR.nil _) (NP.init _ _) (fun x hx => hsb2 x (fl_right' (P := [[b_p0]]) x hx))
 have hsn : ∀ x ∈ fl [[b_p0], M], x ∈ fl ([] ++ ([[b_p0]] ++ [M])) := pick_sub [some 0, some 1] _ rfl
 have hst := hst0.res hsn
 replace hs_p0_0 := hs_p0_0.step hst
 replace hms := hms.ev he22
 replace hev := hev.then he22 (fun b hb => .inl (by simpa using hb))
 replace hb_p0 := hp22_0
 clear hpk hsb hsb0 hpk2 hsb2 hst0 hsn hst
 refine x_convert (.int .u8 (IntKind.u8.wrap x21.1)) _ rfl rfl rfl (tcv3_5 x21.1 _) ?_
 refine ⟨.inr (Ev.refl _ _), ?_⟩
 refine x_buildSlice (vs := [(0, .int .u8 (IntKind.u8.wrap x21.1))]) #[.int .u8 (IntKind.u8.wrap x21.1)] 5 rfl rfl rfl (by kernel_rfl) (fun b23 w23 hq23 hb23 he23 hz23 => ?_)
 refine ⟨.inr (he23.nil), ?_⟩
 have hms0 := hms
 have hst := Stp.ext (ls := [[b_p0], M]) he23
 replace hs_p0_0 := hs_p0_0.step hst
 replace hb_p0 := he23.box hb_p0 nn
 replace hms := hms.ev he23
 replace hev := hev.ext he23
 have hs23 : SlR (eInt .u8) w23 (fl [[b_p0], M]) (Ad b23 0) 1 ([IntKind.u8.wrap x21.1]) := ro_of_box hms0 hq23 hb23 rfl rfl (cells_at (cs := [.int .u8 (IntKind.u8.wrap x21.1)]) (CellsOf.cons (c := [.int .u8 (IntKind.u8.wrap x21.1)]) rfl CellsOf.nil))
 clear hb23 hms0
 refine x_convert (xv := .slice (Ad b23 0) ([IntKind.u8.wrap x21.1]).length 1) (Vs (ofB ([IntKind.u8.wrap x21.1]))) _ rfl rfl rfl (run_ofB tuns46 tint5 tstr9 hs23) ?_
 refine ⟨.inr (Ev.refl _ _), ?_⟩
 refine x_binop (Vs (((p1.drop (Int.toNat (0 : Int))).take (Int.toNat x8.1 - Int.toNat (0 : Int))) ++ (ofB ([IntKind.u8.wrap x21.1])))) (Vs ((p1.drop (Int.toNat (0 : Int))).take (Int.toNat x8.1 - Int.toNat (0 : Int)))) (Vs (ofB ([IntKind.u8.wrap x21.1]))) rfl rfl rfl rfl (bin_sadd (guard_l h)) ?_
 replace h := guard_r h
 refine x_binop (Vs ((((p1.drop (Int.toNat (0 : Int))).take (Int.toNat x8.1 - Int.toNat (0 : Int))) ++ (ofB ([IntKind.u8.wrap x21.1]))) ++ ((p1.drop (Int.toNat (IntKind.i64.wrap (x8.1 + 1)))).take (Int.toNat (p1.length : Int) - Int.toNat (IntKind.i64.wrap (x8.1 + 1)))))) (Vs (((p1.drop (Int.toNat (0 : Int))).take (Int.toNat x8.1 - Int.toNat (0 : Int))) ++ (ofB ([IntKind.u8.wrap x21.1])))) (Vs ((p1.drop (Int.toNat (IntKind.i64.wrap (x8.1 + 1)))).take (Int.toNat (p1.length : Int) - Int.toNat (IntKind.i64.wrap (x8.1 + 1))))) rfl rfl rfl rfl (bin_sadd (guard_l h)) ?_
 replace h := guard_r h
 refine x_u 1 [(4, Vs ((((p1.drop (Int.toNat (0 : Int))).take (Int.toNat x8.1 - Int.toNat (0 : Int))) ++ (ofB ([IntKind.u8.wrap x21.1]))) ++ ((p1.drop (Int.toNat (IntKind.i64.wrap (x8.1 + 1)))).take (Int.toNat (p1.length : Int) - Int.toNat (IntKind.i64.wrap (x8.1 + 1))))))] ?_
 refine x_ek ?_
 refine c_norm [(4, Vs ((((p1.drop (Int.toNat (0 : Int))).take (Int.toNat x8.1 - Int.toNat (0 : Int))) ++ (ofB ([IntKind.u8.wrap x21.1]))) ++ ((p1.drop (Int.toNat (IntKind.i64.wrap (x8.1 + 1)))).take (Int.toNat (p1.length : Int) - Int.toNat (IntKind.i64.wrap (x8.1 + 1))))))] ⟨rfl, trivial⟩ (fun J => ?_)
 refine c_ret ?_
 refine r_ret (r_vals [Vs ((((p1.drop (Int.toNat (0 : Int))).take (Int.toNat x8.1 - Int.toNat (0 : Int))) ++ (ofB ([IntKind.u8.wrap x21.1]))) ++ ((p1.drop (Int.toNat (IntKind.i64.wrap (x8.1 + 1)))).take (Int.toNat (p1.length : Int) - Int.toNat (IntKind.i64.wrap (x8.1 + 1)))))] ⟨rfl, trivial⟩ ?_)
 have hx := some_inj h
 subst hx
 have hmr : MS w23 [[b_p0], M] := hms.pick [some 0, some 1] _ rfl
 have hsu : ∀ x ∈ fl [[b_p0], M], x ∈ fl [[b_p0], M] := pick_sub [some 0, some 1] _ rfl
 exact ⟨rfl, hev, hb_p0⟩
def gen_Maker_SpoilBytes (p0_0 : List Int) (p0_1 : Int) (p1 : List Int) : Option ((List Int) × Int) :=
((gen_Maker_Spoil p0_0 p0_1 (ofB p1)).bind fun x4 =>
(if x4.1.length ≤ 4294967296 then
some ((toB x4.1), x4.2)
else none))

theorem gen_Maker_SpoilBytes_w (b_p0 : Nat) (a_p0_0 : Option Addr) (c_p0_0 : Nat) (p0_0 : List Int) (p0_1 : Int) (a_p1 : Option Addr) (c_p1 : Nat) (p1 : List Int) (r : (List Int) × Int) (w : World) (M : List Nat) (hms : MS w [[b_p0], M]) (hs_p0_0 : SlR (eInt .i64) w (fl [[b_p0], M]) a_p0_0 c_p0_0 p0_0) (hb_p0 : w.heap[b_p0]? = some (.cells #[Vl a_p0_0 p0_0 c_p0_0, Vi p0_1] 65 (0, 0))) (hs_p1 : SlR (eInt .u8) w (fl [[b_p0], M]) a_p1 c_p1 p1) (h : gen_Maker_SpoilBytes p0_0 p0_1 p1 = some r) : CallVC Try.prog 25 [Vp b_p0 0, Vl a_p1 p1 c_p1] w fun v w' => ∃ (a0' : Option Addr), ∃ (c0' : Nat), v = Vl a0' r.1 c0' ∧ Ev [b_p0] w w' ∧ w'.heap[b_p0]? = some (.cells #[Vl a_p0_0 p0_0 c_p0_0, Vi r.2] 65 (0, 0)) ∧ SlR (eInt .u8) w' (fl [[b_p0], M]) a0' c0' r.1 := by
 refine calls_vc hmx Try.func25 (by kernel_rfl) rfl (rs := [.tmp 4]) rfl (by kernel_rfl) (args := [Vp b_p0 0, Vl a_p1 p1 c_p1]) rfl ?_
 have hev : Ev [b_p0] w w := Ev.refl _ _
 have hfr : FR w.heap.size [] := FR.nil _
 refine c_sp ?_
 refine x_u 1 [(4, .slice none 0 0)] ?_
 refine x_ek ?_
 refine c_sp ?_
 refine x_u 2 [(5, Vp b_p0 0), (6, Vl a_p1 p1 c_p1)] ?_
 refine x_convert (xv := Vl a_p1 p1 c_p1) (Vs (ofB p1)) _ rfl rfl rfl (run_ofB tuns46 tint5 tstr9 hs_p1) ?_
 refine inl1 ?_
 obtain ⟨x4, hx, h⟩ := bind_some h
 have hpk : MS w ([[b_p0]] ++ [M]) := hms.pick [some 0, some 1] _ rfl
 have hsb0 : ∀ x ∈ fl ([[b_p0]] ++ [M]), x ∈ fl [[b_p0], M] := pick_sub [some 0, some 1] _ rfl
 have hsb : ∀ x ∈ fl ([[b_p0]] ++ [(fl [M])]), x ∈ fl [[b_p0], M] := fun x hx => hsb0 x (fl_unfold x hx)
 have hcall := gen_Maker_Spoil_w b_p0 a_p0_0 c_p0_0 p0_0 p0_1 (ofB p1) _ w (fl [M]) (hpk.fold (P := [[b_p0]])) (hs_p0_0.sub hsb) hb_p0 hx
 refine x_call 48 #[] #[] [Vp b_p0 0, Vs (ofB p1)] _ rfl rfl rfl rfl hcall ?_
 rintro v w5 ⟨rfl, he5, hp5_0⟩
 clear hcall hx
 refine inl1 ?_
 have hpk2 : MS w ([[b_p0]] ++ [M]) := hms.pick [some 0, some 1] _ rfl
 have hsb2 : ∀ x ∈ fl ([[b_p0]] ++ [M]), x ∈ fl [[b_p0], M] := pick_sub [some 0, some 1] _ rfl
 have hst0 := Stp.call (LS := [[b_p0], M]) (res := []) (par := [[b_p0]]) (R := [M]) he5 (fun b hb => hsb2 b (fl_left' (P := [[b_p0]]) b hb)) (FR.nil _) (NP.init _ _) (fun x hx => hsb2 x (fl_right' (P := [[b_p0]]) x hx))
 have hsn : ∀ x ∈ fl [[b_p0], M], x ∈ fl ([] ++ ([[b_p0]] ++ [M])) := pick_sub [some 0, some 1] _ rfl
 have hst := hst0.res hsn
 replace hs_p0_0 := hs_p0_0.step hst
 replace hs_p1 := hs_p1.step hst
 replace hms := hms.ev he5
 replace hev := hev.then he5 (fun b hb => .inl (by simpa using hb))
 replace hb_p0 := hp5_0
 clear hpk hsb hsb0 hpk2 hsb2 hst0 hsn hst
 have hg := guard_l h
 replace h := guard_r h
 obtain ⟨a6, c6, w6, hr6, he6, hn6, hw6⟩ := own_ofS (P := Try.prog) tstr9 tuns46 tint5 w5 x4.1 hg
 refine x_convert (xv := Vs x4.1) _ w6 rfl rfl rfl hr6 ?_
 refine inl1 ?_
 have hst := Stp.push (ls := [[b_p0], M]) (l := blk a6) he6 (fun _ h => by cases h) (fun b hb => (hn6 b hb).1)
 replace hs_p0_0 := hs_p0_0.step hst
 replace hb_p0 := he6.box hb_p0 nn
 replace hs_p1 := hs_p1.step hst
 replace hms := hms.push he6 hn6
 replace hfr := hfr.push (fun b hb => Nat.le_trans hev.size (hn6 b hb).1)
 replace hev := hev.ext he6
 have ho6 := hw6 (fl [blk a6, [b_p0], M])
 clear hw6
 refine x_u 1 [(4, .slice a6 ((toB x4.1)).length c6)] ?_
 refine x_ek ?_
 refine c_ret ?_
 refine r_ret (r_vals [.slice a6 ((toB x4.1)).length c6] ⟨rfl, trivial⟩ ?_)
 have hx := some_inj h
 subst hx
 have hmr : MS w6 [[b_p0], M] := hms.pick [some 1, some 2] _ rfl
 have hsu : ∀ x ∈ fl [[b_p0], M], x ∈ fl [blk a6, [b_p0], M] := pick_sub [some 1, some 2] _ rfl
 exact ⟨a6, c6, rfl, hev, hb_p0, ho6.ro hsu (pick_out hms 0 rfl [some 1, some 2] [[b_p0], M] rfl rfl)⟩
end Go.Proofs.Ytcignnfdpgeogaa
