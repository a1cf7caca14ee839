
/- Walks, printed by program: each function returns what the partial function of the same name returns. Conditions: those of each theorem. -/
import Derived.Test.YtgeceohdppecgaaGT
set_option linter.unusedVariables false
set_option linter.unusedSimpArgs false
set_option maxRecDepth 4000
namespace Go.Proofs.Ytgeceohdppecgaa
open Go Go.V Go.Proofs
def gen_New (p0 : List Int) : Option ((List Int) × Int) :=
some (p0, 0)

theorem gen_New_w (a_p0 : Option Addr) (c_p0 : Nat) (p0 : List Int) (r : ((List Int) × Int)) (w : World) (M : List Nat) (hms : MS w [M]) (hs_p0 : SlR (eInt .i64) w (fl [M]) a_p0 c_p0 p0) (h : gen_New p0 = some r) : CallVC Try.prog 6 [Vl a_p0 p0 c_p0] w fun v w' => ∃ (b0' : Nat), ∃ (a1' : Option Addr), ∃ (c1' : Nat), v = .pointer (some ⟨b0', 0, none⟩) ∧ Ev [] w w' ∧ MS w' [[b0'], M] ∧ FR w.heap.size [[b0']] ∧ w'.heap[b0']? = some (.cells #[Vl a1' r.1 c1', Vi r.2] 52 (0, 0)) ∧ SlR (eInt .i64) w' (fl [[b0'], M]) a1' c1' r.1 := by
 refine calls_vc hmx Try.func6 (by kernel_rfl) rfl (rs := [.tmp 2]) rfl (by kernel_rfl) (args := [Vl a_p0 p0 c_p0]) rfl ?_
 have hev : Ev [] w w := Ev.refl _ _
 have hfr : FR w.heap.size [] := FR.nil _
 refine c_sp ?_
 refine x_u 1 [(2, .pointer none)] ?_
 refine x_ek ?_
 refine c_sp ?_
 refine x_u 1 [(3, Vl a_p0 p0 c_p0)] ?_
 refine x_build (vs := [(0, Vl a_p0 p0 c_p0)]) (.agg #[Vl a_p0 p0 c_p0, Vi 0]) rfl rfl rfl (fun _ _ => by kernel_rfl) ?_
 refine x_box (xv := .agg #[Vl a_p0 p0 c_p0, Vi 0]) rfl rfl rfl (fun b2 w2 hq2 hb2 he2 hz2 => ?_)
 replace hb2 : w2.heap[b2]? = some (.cells #[Vl a_p0 p0 c_p0, Vi 0] 52 (0, 0)) := hb2
 refine inl1 ?_
 have hst := Stp.box (ls := [M]) he2 hq2
 replace hs_p0 := hs_p0.step hst
 replace hms := hms.box he2 hq2 hb2
 replace hfr := hfr.box hev.size hq2
 replace hev := hev.ext he2
 refine x_u 1 [(2, Vp b2 0)] ?_
 refine x_ek ?_
 refine c_ret ?_
 refine r_ret (r_vals [Vp b2 0] ⟨rfl, trivial⟩ ?_)
 have hx := some_inj h
 subst hx
 have hmr : MS w2 [[b2], M] := hms.pick [some 0, some 1] _ rfl
 have hsu : ∀ x ∈ fl [[b2], M], x ∈ fl [[b2], M] := pick_sub [some 0, some 1] _ rfl
 have hfe : FR w.heap.size [[b2]] := hfr.pick [some 0] _ rfl
 exact ⟨b2, a_p0, c_p0, rfl, hev, hmr, hfe, hb2, hs_p0.sub hsu⟩
def gen_Maker_Next_J3 (p0_1 : Int) (p1 : Int) (x_s5_j3 : Int) : Option (Int × Int) :=
(if p1 ≠ 0 then
(if (decide ((Int.tmod x_s5_j3 p1) < 0)) = true then
some (IntKind.i64.wrap ((Int.tmod x_s5_j3 p1) + p1), IntKind.i64.wrap (p0_1 + 1))
else
some (Int.tmod x_s5_j3 p1, IntKind.i64.wrap (p0_1 + 1)))
else none)

def gen_Maker_Next (p0_0 : List Int) (p0_1 : Int) (p1 : Int) : Option (Int × Int) :=
(if (decide (((p0_0).length : Int) > 0)) = true then
(if ((p0_0).length : Int) ≠ 0 then
((idx p0_0 (Int.tmod p0_1 ((p0_0).length : Int))).bind fun x4 =>
(if ((p0_0).length : Int) ≠ 0 then
gen_Maker_Next_J3 p0_1 p1 (IntKind.i64.wrap (x4 + (IntKind.i64.wrap ((IntKind.i64.wrap (Int.tdiv p0_1 ((p0_0).length : Int))) * 7919))))
else none))
else none)
else
gen_Maker_Next_J3 p0_1 p1 0)

theorem gen_Maker_Next_w (b_p0 : Nat) (a_p0_0 : Option Addr) (c_p0_0 : Nat) (p0_0 : List Int) (p0_1 : Int) (p1 : Int) (r : Int × Int) (w : World) (M : List Nat) (hms : MS w [[b_p0], M]) (hs_p0_0 : SlR (eInt .i64) w (fl [[b_p0], M]) a_p0_0 c_p0_0 p0_0) (hb_p0 : w.heap[b_p0]? = some (.cells #[Vl a_p0_0 p0_0 c_p0_0, Vi p0_1] 52 (0, 0))) (h : gen_Maker_Next p0_0 p0_1 p1 = some r) : CallVC Try.prog 14 [Vp b_p0 0, Vi p1] w fun v w' => v = Vi r.1 ∧ Ev [b_p0] w w' ∧ w'.heap[b_p0]? = some (.cells #[Vl a_p0_0 p0_0 c_p0_0, Vi r.2] 52 (0, 0)) := by
 refine calls_vc hmx Try.func14 (by kernel_rfl) rfl (rs := [.tmp 4]) rfl (by kernel_rfl) (args := [Vp b_p0 0, Vi p1]) rfl ?_
 have hev : Ev [b_p0] w w := Ev.refl _ _
 have hfr : FR w.heap.size [] := FR.nil _
 refine c_sp ?_
 refine x_u 1 [(4, Vi 0)] ?_
 refine x_ek ?_
 refine c_sp ?_
 refine x_u 1 [(5, Vi 0)] ?_
 refine x_ek ?_
 refine c_join (σ := Int) (fun s => match s with | x_s5_j3 => [(0, Vp b_p0 0), (1, Vi p1), (5, Vi x_s5_j3)]) (fun s w' => match s with | x_s5_j3 => gen_Maker_Next_J3 p0_1 p1 x_s5_j3 = some r ∧ Ev [b_p0] w w' ∧ MS w' [[b_p0], M] ∧ FR w.heap.size [] ∧ SlR (eInt .i64) w' (fl [[b_p0], M]) a_p0_0 c_p0_0 p0_0 ∧ w'.heap[b_p0]? = some (.cells #[Vl a_p0_0 p0_0 c_p0_0, Vi p0_1] 52 (0, 0))) ?_ ?_
 · refine c_sp ?_
   refine x_u 2 [(6, Vp b_p0 0), (7, Vp b_p0 0)] ?_
   refine x_fieldAddr (xv := Vp b_p0 0) (Vp b_p0 0) rfl rfl rfl (reads_field tfld52_0 _ _) ?_
   refine x_load (xv := Vp b_p0 0) (Vl a_p0_0 p0_0 c_p0_0) rfl rfl rfl (reads_box tcell22 hb_p0 nn 0 _ rfl) ?_
   refine x_len (vs := [Vl a_p0_0 p0_0 c_p0_0]) (Vi ((p0_0).length : Int)) rfl rfl rfl (reads_len tsl22 _ _ _ _ _) ?_
   refine x_u 1 [(11, .bool (decide (((p0_0).length : Int) > 0)))] ?_
   refine x_ek ?_
   refine c_if (decide (((p0_0).length : Int) > 0)) rfl h (fun h => ?_) (fun h => ?_)
   · refine c_drawn [] [(0, false), (1, false), (2, false), (3, false), (4, false), (5, false), (6, false), (7, false), (8, false), (9, false), (10, false), (11, false), (12, false), (13, false), (14, false), (15, false), (16, false), (17, false), (18, false), (19, false), (20, false), (21, false), (22, false), (23, false), (24, false), (25, false), (26, false), (27, false), (28, false)] _ (by kernel_rfl) rfl ?_
     have hst := Stp.ext (ls := [[b_p0], M]) (Ev.drew w)
     replace hs_p0_0 := hs_p0_0.step hst
     replace hb_p0 := (Ev.drew w).box hb_p0 nn
     replace hms := hms.ev (Ev.drew w)
     replace hev := hev.ext (Ev.drew w)
     refine x_u 2 [(12, Vp b_p0 0), (13, Vp b_p0 0)] ?_
     refine x_fieldAddr (xv := Vp b_p0 0) (Vp b_p0 0) rfl rfl rfl (reads_field tfld52_0 _ _) ?_
     refine x_load (xv := Vp b_p0 0) (Vl a_p0_0 p0_0 c_p0_0) rfl rfl rfl (reads_box tcell22 hb_p0 nn 0 _ rfl) ?_
     refine x_u 2 [(16, Vp b_p0 0), (17, Vp b_p0 0)] ?_
     refine x_fieldAddr (xv := Vp b_p0 0) (Vp b_p0 1) rfl rfl rfl (reads_field tfld52_1 _ _) ?_
     refine x_load (xv := Vp b_p0 1) (Vi p0_1) rfl rfl rfl (reads_box tcell3 hb_p0 nn 1 _ rfl) ?_
     refine x_u 2 [(20, Vp b_p0 0), (21, Vp b_p0 0)] ?_
     refine x_fieldAddr (xv := Vp b_p0 0) (Vp b_p0 0) rfl rfl rfl (reads_field tfld52_0 _ _) ?_
     refine x_load (xv := Vp b_p0 0) (Vl a_p0_0 p0_0 c_p0_0) rfl rfl rfl (reads_box tcell22 hb_p0 nn 0 _ rfl) ?_
     refine x_len (vs := [Vl a_p0_0 p0_0 c_p0_0]) (Vi ((p0_0).length : Int)) rfl rfl rfl (reads_len tsl22 _ _ _ _ _) ?_
     refine x_binop (Vi (Int.tmod p0_1 ((p0_0).length : Int))) (Vi p0_1) (Vi ((p0_0).length : Int)) rfl rfl rfl rfl (vb_rem (guard_l h)) ?_
     replace h := guard_r h
     obtain ⟨x4, hx4, h⟩ := bind_some h
     obtain ⟨ad4, cs4, hr4, hc4, hR⟩ := reads_index (Mo := []) tsl22 hs_p0_0 hx4
     obtain rfl := hR
     refine x_indexAddr (xv := Vl a_p0_0 p0_0 c_p0_0) (yv := Vi (Int.tmod p0_1 ((p0_0).length : Int))) (.pointer (some ad4)) rfl rfl rfl rfl hr4 ?_
     refine x_load (xv := .pointer (some ad4)) (Vi x4) rfl rfl rfl (reads_cell0 tcell3 hc4 (fun _ h => by cases h)) ?_
     refine x_u 2 [(28, Vp b_p0 0), (29, Vp b_p0 0)] ?_
     refine x_fieldAddr (xv := Vp b_p0 0) (Vp b_p0 1) rfl rfl rfl (reads_field tfld52_1 _ _) ?_
     refine x_load (xv := Vp b_p0 1) (Vi p0_1) rfl rfl rfl (reads_box tcell3 hb_p0 nn 1 _ rfl) ?_
     refine x_u 2 [(32, Vp b_p0 0), (33, Vp b_p0 0)] ?_
     refine x_fieldAddr (xv := Vp b_p0 0) (Vp b_p0 0) rfl rfl rfl (reads_field tfld52_0 _ _) ?_
     refine x_load (xv := Vp b_p0 0) (Vl a_p0_0 p0_0 c_p0_0) rfl rfl rfl (reads_box tcell22 hb_p0 nn 0 _ rfl) ?_
     refine x_len (vs := [Vl a_p0_0 p0_0 c_p0_0]) (Vi ((p0_0).length : Int)) rfl rfl rfl (reads_len tsl22 _ _ _ _ _) ?_
     refine x_binop (Vi (IntKind.i64.wrap (Int.tdiv p0_1 ((p0_0).length : Int)))) (Vi p0_1) (Vi ((p0_0).length : Int)) rfl rfl rfl rfl (vb_quo (guard_l h)) ?_
     replace h := guard_r h
     refine x_u 3 [(38, Vi (IntKind.i64.wrap ((IntKind.i64.wrap (Int.tdiv p0_1 ((p0_0).length : Int))) * 7919))), (39, Vi (IntKind.i64.wrap (x4 + (IntKind.i64.wrap ((IntKind.i64.wrap (Int.tdiv p0_1 ((p0_0).length : Int))) * 7919))))), (5, Vi (IntKind.i64.wrap (x4 + (IntKind.i64.wrap ((IntKind.i64.wrap (Int.tdiv p0_1 ((p0_0).length : Int))) * 7919)))))] ?_
     refine x_end rfl ?_
     exact k_then ⟨IntKind.i64.wrap (x4 + (IntKind.i64.wrap ((IntKind.i64.wrap (Int.tdiv p0_1 ((p0_0).length : Int))) * 7919))), ⟨rfl, rfl, rfl, trivial⟩, h, hev, hms, hfr, hs_p0_0, hb_p0⟩
   refine c_skip ?_
   exact k_then ⟨0, ⟨rfl, rfl, rfl, trivial⟩, h, hev, hms, hfr, hs_p0_0, hb_p0⟩
 rintro x_s5_j3 J wj3 ⟨h, hev, hms, hfr, hs_p0_0, hb_p0⟩
 refine c_sp ?_
 refine x_u 2 [(40, Vp b_p0 0), (41, Vp b_p0 0)] ?_
 refine x_fieldAddr (xv := Vp b_p0 0) (Vp b_p0 1) rfl rfl rfl (reads_field tfld52_1 _ _) ?_
 refine x_load (xv := Vp b_p0 1) (Vi p0_1) rfl rfl rfl (reads_box tcell3 hb_p0 nn 1 _ rfl) ?_
 refine x_u 2 [(44, Vi (IntKind.i64.wrap (p0_1 + 1))), (45, Vp b_p0 0)] ?_
 refine x_fieldAddr (xv := Vp b_p0 0) (Vp b_p0 1) rfl rfl rfl (reads_field tfld52_1 _ _) ?_
 obtain ⟨w6, hr6, hb6, he6⟩ := store_box 1 (Vi (IntKind.i64.wrap (p0_1 + 1))) #[Vl a_p0_0 p0_0 c_p0_0, Vi (IntKind.i64.wrap (p0_1 + 1))] tcell3 hb_p0 rfl rfl rfl
 refine x_store w6 (xv := Vp b_p0 1) (yv := Vi (IntKind.i64.wrap (p0_1 + 1))) rfl rfl rfl rfl hr6 ?_
 refine inl1 ?_
 have hst := Stp.ev' (ls := [[b_p0], M]) he6 (mem_flat 0 rfl)
 replace hs_p0_0 := hs_p0_0.step hst
 replace hms := hms.ev he6
 replace hev := hev.then he6 (fun b hb => .inl (by simpa using hb))
 replace hb_p0 := hb6
 refine x_ek ?_
 refine c_norm [(1, Vi p1), (5, Vi x_s5_j3)] ⟨rfl, rfl, trivial⟩ (fun J => ?_)
 refine c_sp ?_
 refine x_u 2 [(47, Vi x_s5_j3), (48, Vi p1)] ?_
 refine x_binop (Vi (Int.tmod x_s5_j3 p1)) (Vi x_s5_j3) (Vi p1) rfl rfl rfl rfl (vb_rem (guard_l h)) ?_
 replace h := guard_r h
 refine x_u 1 [(5, Vi (Int.tmod x_s5_j3 p1))] ?_
 refine x_ek ?_
 refine c_seq ?_
 refine c_sp ?_
 refine x_u 2 [(50, Vi (Int.tmod x_s5_j3 p1)), (51, .bool (decide ((Int.tmod x_s5_j3 p1) < 0)))] ?_
 refine x_ek ?_
 refine c_if (decide ((Int.tmod x_s5_j3 p1) < 0)) rfl h (fun h => ?_) (fun h => ?_)
 · refine c_plain ?_
   refine x_u 4 [(52, Vi (Int.tmod x_s5_j3 p1)), (53, Vi p1), (54, Vi (IntKind.i64.wrap ((Int.tmod x_s5_j3 p1) + p1))), (5, Vi (IntKind.i64.wrap ((Int.tmod x_s5_j3 p1) + p1)))] ?_
   refine x_ek ?_
   refine c_sp ?_
   refine x_u 2 [(55, Vi (IntKind.i64.wrap ((Int.tmod x_s5_j3 p1) + p1))), (4, Vi (IntKind.i64.wrap ((Int.tmod x_s5_j3 p1) + p1)))] ?_
   refine x_ek ?_
   refine c_ret ?_
   refine r_ret (r_vals [Vi (IntKind.i64.wrap ((Int.tmod x_s5_j3 p1) + p1))] ⟨rfl, trivial⟩ ?_)
   have hx := some_inj h
   subst hx
   have hmr : MS w6 [[b_p0], M] := hms.pick [some 0, some 1] _ rfl
   have hsu : ∀ x ∈ fl [[b_p0], M], x ∈ fl [[b_p0], M] := pick_sub [some 0, some 1] _ rfl
   exact ⟨rfl, hev, hb_p0⟩
 refine c_skip ?_
 refine k_then ?_
 refine c_sp ?_
 refine x_u 2 [(55, Vi (Int.tmod x_s5_j3 p1)), (4, Vi (Int.tmod x_s5_j3 p1))] ?_
 refine x_ek ?_
 refine c_ret ?_
 refine r_ret (r_vals [Vi (Int.tmod x_s5_j3 p1)] ⟨rfl, trivial⟩ ?_)
 have hx := some_inj h
 subst hx
 have hmr : MS w6 [[b_p0], M] := hms.pick [some 0, some 1] _ rfl
 have hsu : ∀ x ∈ fl [[b_p0], M], x ∈ fl [[b_p0], M] := pick_sub [some 0, some 1] _ rfl
 exact ⟨rfl, hev, hb_p0⟩
def gen_Maker_Pick (p0_0 : List Int) (p0_1 : Int) (p1 : List Int) : Option (Int × Int) :=
((gen_Maker_Next p0_0 p0_1 ((p1).length : Int)).bind fun x4 =>
((idx p1 x4.1).bind fun x6 =>
some (x6, x4.2)))

theorem gen_Maker_Pick_w (b_p0 : Nat) (a_p0_0 : Option Addr) (c_p0_0 : Nat) (p0_0 : List Int) (p0_1 : Int) (a_p1 : Option Addr) (c_p1 : Nat) (p1 : List Int) (r : Int × Int) (w : World) (M : List Nat) (hms : MS w [[b_p0], M]) (hs_p0_0 : SlR (eInt .i64) w (fl [[b_p0], M]) a_p0_0 c_p0_0 p0_0) (hb_p0 : w.heap[b_p0]? = some (.cells #[Vl a_p0_0 p0_0 c_p0_0, Vi p0_1] 52 (0, 0))) (hs_p1 : SlR (eInt .i64) w (fl [[b_p0], M]) a_p1 c_p1 p1) (h : gen_Maker_Pick p0_0 p0_1 p1 = some r) : CallVC Try.prog 15 [Vp b_p0 0, Vl a_p1 p1 c_p1] w fun v w' => v = Vi r.1 ∧ Ev [b_p0] w w' ∧ w'.heap[b_p0]? = some (.cells #[Vl a_p0_0 p0_0 c_p0_0, Vi r.2] 52 (0, 0)) := by
 refine calls_vc hmx Try.func15 (by kernel_rfl) rfl (rs := [.tmp 4]) rfl (by kernel_rfl) (args := [Vp b_p0 0, Vl a_p1 p1 c_p1]) rfl ?_
 have hev : Ev [b_p0] w w := Ev.refl _ _
 have hfr : FR w.heap.size [] := FR.nil _
 refine c_sp ?_
 refine x_u 1 [(4, Vi 0)] ?_
 refine x_ek ?_
 refine c_sp ?_
 refine x_u 3 [(5, Vl a_p1 p1 c_p1), (6, Vp b_p0 0), (7, Vl a_p1 p1 c_p1)] ?_
 refine x_len (vs := [Vl a_p1 p1 c_p1]) (Vi ((p1).length : Int)) rfl rfl rfl (reads_len tsl22 _ _ _ _ _) ?_
 obtain ⟨x4, hx, h⟩ := bind_some h
 have hpk : MS w ([[b_p0]] ++ [M]) := hms.pick [some 0, some 1] _ rfl
 have hsb0 : ∀ x ∈ fl ([[b_p0]] ++ [M]), x ∈ fl [[b_p0], M] := pick_sub [some 0, some 1] _ rfl
 have hsb : ∀ x ∈ fl ([[b_p0]] ++ [(fl [M])]), x ∈ fl [[b_p0], M] := fun x hx => hsb0 x (fl_unfold x hx)
 have hcall := gen_Maker_Next_w b_p0 a_p0_0 c_p0_0 p0_0 p0_1 ((p1).length : Int) _ w (fl [M]) (hpk.fold (P := [[b_p0]])) (hs_p0_0.sub hsb) hb_p0 hx
 refine x_call 14 #[] #[] [Vp b_p0 0, Vi ((p1).length : Int)] _ rfl rfl rfl rfl hcall ?_
 rintro v w5 ⟨rfl, he5, hp5_0⟩
 clear hcall hx
 refine inl1 ?_
 have hpk2 : MS w ([[b_p0]] ++ [M]) := hms.pick [some 0, some 1] _ rfl
 have hsb2 : ∀ x ∈ fl ([[b_p0]] ++ [M]), x ∈ fl [[b_p0], M] := pick_sub [some 0, some 1] _ rfl
 have hst0 := Stp.call (LS := [[b_p0], M]) (res := []) (par := [[b_p0]]) (R := [M]) he5 (fun b hb => hsb2 b (fl_left' (P := [[b_p0]]) b hb)) (FR.nil _) (NP.init _ _) (fun x hx => hsb2 x (fl_right' (P := [[b_p0]]) x hx))
 have hsn : ∀ x ∈ fl [[b_p0], M], x ∈ fl ([] ++ ([[b_p0]] ++ [M])) := pick_sub [some 0, some 1] _ rfl
 have hst := hst0.res hsn
 replace hs_p0_0 := hs_p0_0.step hst
 replace hs_p1 := hs_p1.step hst
 replace hms := hms.ev he5
 replace hev := hev.then he5 (fun b hb => .inl (by simpa using hb))
 replace hb_p0 := hp5_0
 clear hpk hsb hsb0 hpk2 hsb2 hst0 hsn hst
 obtain ⟨x6, hx6, h⟩ := bind_some h
 obtain ⟨ad6, cs6, hr6, hc6, hR⟩ := reads_index (Mo := []) tsl22 hs_p1 hx6
 obtain rfl := hR
 refine x_indexAddr (xv := Vl a_p1 p1 c_p1) (yv := Vi x4.1) (.pointer (some ad6)) rfl rfl rfl rfl hr6 ?_
 refine x_load (xv := .pointer (some ad6)) (Vi x6) rfl rfl rfl (reads_cell0 tcell3 hc6 (fun _ h => by cases h)) ?_
 refine x_u 1 [(4, Vi x6)] ?_
 refine x_ek ?_
 refine c_ret ?_
 refine r_ret (r_vals [Vi x6] ⟨rfl, trivial⟩ ?_)
 have hx := some_inj h
 subst hx
 have hmr : MS w5 [[b_p0], M] := hms.pick [some 0, some 1] _ rfl
 have hsu : ∀ x ∈ fl [[b_p0], M], x ∈ fl [[b_p0], M] := pick_sub [some 0, some 1] _ rfl
 exact ⟨rfl, hev, hb_p0⟩
def gen_Ints_L4 (p0 : List Int) (p1 : List Int) (s : Int) : Option (Step Int (Unit ⊕ Unit)) :=
match s with
| i_s5_l4 =>
(if (decide (i_s5_l4 < ((p0).length : Int))) = true then
((idx p0 i_s5_l4).bind fun x6 =>
((idx p1 i_s5_l4).bind fun x8 =>
(if (x6 != x8) = true then
some (.done (.inl ()))
else
some (.next (IntKind.i64.wrap (i_s5_l4 + 1))))))
else
some (.done (.inr ())))

def gen_Ints (p0 : List Int) (p1 : List Int) : Option Bool :=
(if (((p0).length : Int) != ((p1).length : Int)) = true then
some false
else
((loop (gen_Ints_L4 p0 p1) 0).bind fun d => match d with
| (.inl _) => some false
| (.inr _) => some true))

theorem gen_Ints_w (a_p0 : Option Addr) (c_p0 : Nat) (p0 : List Int) (a_p1 : Option Addr) (c_p1 : Nat) (p1 : List Int) (r : Bool) (w : World) (M : List Nat) (hms : MS w [M]) (hs_p0 : SlR (eInt .i64) w (fl [M]) a_p0 c_p0 p0) (hs_p1 : SlR (eInt .i64) w (fl [M]) a_p1 c_p1 p1) (h : gen_Ints p0 p1 = some r) : CallVC Try.prog 12 [Vl a_p0 p0 c_p0, Vl a_p1 p1 c_p1] w fun v w' => v = .bool r ∧ Ev [] w w' := by
 refine calls_vc hmx Try.func12 (by kernel_rfl) rfl (rs := [.tmp 4]) rfl (by kernel_rfl) (args := [Vl a_p0 p0 c_p0, Vl a_p1 p1 c_p1]) rfl ?_
 have hev : Ev [] w w := Ev.refl _ _
 have hfr : FR w.heap.size [] := FR.nil _
 refine c_sp ?_
 refine x_u 1 [(4, .bool false)] ?_
 refine x_ek ?_
 refine c_seq ?_
 refine c_sp ?_
 refine x_u 1 [(6, Vl a_p0 p0 c_p0)] ?_
 refine x_len (vs := [Vl a_p0 p0 c_p0]) (Vi ((p0).length : Int)) rfl rfl rfl (reads_len tsl22 _ _ _ _ _) ?_
 refine x_u 1 [(8, Vl a_p1 p1 c_p1)] ?_
 refine x_len (vs := [Vl a_p1 p1 c_p1]) (Vi ((p1).length : Int)) rfl rfl rfl (reads_len tsl22 _ _ _ _ _) ?_
 refine x_u 1 [(10, .bool (((p0).length : Int) != ((p1).length : Int)))] ?_
 refine x_ek ?_
 refine c_if (((p0).length : Int) != ((p1).length : Int)) rfl h (fun h => ?_) (fun h => ?_)
 · refine c_sp ?_
   refine x_u 1 [(4, .bool false)] ?_
   refine x_ek ?_
   refine c_ret ?_
   refine k_then_ret ?_
   refine r_ret (r_vals [.bool false] ⟨rfl, trivial⟩ ?_)
   have hx := some_inj h
   subst hx
   have hmr : MS w [M] := hms.pick [some 0] _ rfl
   have hsu : ∀ x ∈ fl [M], x ∈ fl [M] := pick_sub [some 0] _ rfl
   exact ⟨rfl, hev⟩
 refine c_skip ?_
 refine k_then ?_
 refine c_seq ?_
 refine c_sp ?_
 refine x_u 1 [(5, Vi 0)] ?_
 refine x_ek ?_
 refine c_block ?_
 obtain ⟨d4, hd4, h4⟩ := bind_some h
 obtain ⟨m4, hd4⟩ := loop_some hd4
 refine c_loop (loop_rule hmx (σ := Nat × Int) (fun s => match s with | (_, i_s5_l4) => [(0, Vl a_p0 p0 c_p0), (1, Vl a_p1 p1 c_p1), (5, Vi i_s5_l4)]) (fun s w' => match s with | (m, i_s5_l4) => loopN (gen_Ints_L4 p0 p1) m i_s5_l4 = some d4 ∧ Ev [] w w' ∧ MS w' [M] ∧ FR w.heap.size [] ∧ SlR (eInt .i64) w' (fl [M]) a_p0 c_p0 p0 ∧ SlR (eInt .i64) w' (fl [M]) a_p1 c_p1 p1) (fun s => s.1) (m4, 0) ⟨rfl, rfl, rfl, trivial⟩ ⟨hd4, hev, hms, hfr, hs_p0, hs_p1⟩ ?_)
 rintro ⟨m4, i_s5_l4⟩ J wl4 ⟨hn4, hev, hms, hfr, hs_p0, hs_p1⟩
 rcases m4 with _ | m4
 · exact (loopN_zero hn4).elim
 obtain ⟨t4, h, hn4⟩ := bind_some hn4
 refine c_seq ?_
 refine c_sp ?_
 refine x_u 2 [(11, Vi i_s5_l4), (12, Vl a_p0 p0 c_p0)] ?_
 refine x_len (vs := [Vl a_p0 p0 c_p0]) (Vi ((p0).length : Int)) rfl rfl rfl (reads_len tsl22 _ _ _ _ _) ?_
 refine x_u 1 [(14, .bool (decide (i_s5_l4 < ((p0).length : Int))))] ?_
 refine x_ek ?_
 refine c_norm [(0, Vl a_p0 p0 c_p0), (1, Vl a_p1 p1 c_p1), (5, Vi i_s5_l4), (14, .bool (decide (i_s5_l4 < ((p0).length : Int))))] ⟨rfl, rfl, rfl, rfl, trivial⟩ (fun J => ?_)
 refine c_if (decide (i_s5_l4 < ((p0).length : Int))) rfl h (fun h => ?_) (fun h => ?_)
 · refine c_skip ?_
   refine k_then ?_
   refine c_seq ?_
   refine c_block ?_
   refine c_seq ?_
   refine c_drawn [] [(0, false), (1, false), (2, false), (3, false), (4, false), (5, false), (6, false), (7, false), (8, false)] _ (by kernel_rfl) rfl ?_
   have hst := Stp.ext (ls := [M]) (Ev.drew wl4)
   replace hs_p0 := hs_p0.step hst
   replace hs_p1 := hs_p1.step hst
   replace hms := hms.ev (Ev.drew wl4)
   replace hev := hev.ext (Ev.drew wl4)
   refine x_u 2 [(17, Vl a_p0 p0 c_p0), (18, Vi i_s5_l4)] ?_
   obtain ⟨x6, hx6, h⟩ := bind_some h
   obtain ⟨ad6, cs6, hr6, hc6, hR⟩ := reads_index (Mo := []) tsl22 hs_p0 hx6
   obtain rfl := hR
   refine x_indexAddr (xv := Vl a_p0 p0 c_p0) (yv := Vi i_s5_l4) (.pointer (some ad6)) rfl rfl rfl rfl hr6 ?_
   refine x_load (xv := .pointer (some ad6)) (Vi x6) rfl rfl rfl (reads_cell0 tcell3 hc6 (fun _ h => by cases h)) ?_
   refine x_u 2 [(21, Vl a_p1 p1 c_p1), (22, Vi i_s5_l4)] ?_
   obtain ⟨x8, hx8, h⟩ := bind_some h
   obtain ⟨ad8, cs8, hr8, hc8, hR⟩ := reads_index (Mo := []) tsl22 hs_p1 hx8
   obtain rfl := hR
   refine x_indexAddr (xv := Vl a_p1 p1 c_p1) (yv := Vi i_s5_l4) (.pointer (some ad8)) rfl rfl rfl rfl hr8 ?_
   refine x_load (xv := .pointer (some ad8)) (Vi x8) rfl rfl rfl (reads_cell0 tcell3 hc8 (fun _ h => by cases h)) ?_
   refine x_u 1 [(25, .bool (x6 != x8))] ?_
   refine x_ek ?_
   refine c_if (x6 != x8) rfl h (fun h => ?_) (fun h => ?_)
   · refine c_sp ?_
     refine x_u 1 [(4, .bool false)] ?_
     refine x_ek ?_
     refine c_ret ?_
     refine k_block_ret ?_
     refine k_then_ret ?_
     have hx := some_inj h
     subst hx
     have hy := some_inj hn4
     subst hy
     replace h := h4
     refine k_then_ret ?_
     refine k_block_ret ?_
     refine k_then_ret ?_
     refine r_ret (r_vals [.bool false] ⟨rfl, trivial⟩ ?_)
     have hx := some_inj h
     subst hx
     have hmr : MS (wl4).drew [M] := hms.pick [some 0] _ rfl
     have hsu : ∀ x ∈ fl [M], x ∈ fl [M] := pick_sub [some 0] _ rfl
     exact ⟨rfl, hev⟩
   refine c_skip ?_
   refine k_block ?_
   refine k_then ?_
   refine c_plain ?_
   refine x_u 3 [(15, Vi i_s5_l4), (16, Vi (IntKind.i64.wrap (i_s5_l4 + 1))), (5, Vi (IntKind.i64.wrap (i_s5_l4 + 1)))] ?_
   refine x_end rfl ?_
   have hx := some_inj h
   subst hx
   exact k_then ⟨(m4, IntKind.i64.wrap (i_s5_l4 + 1)), ⟨rfl, rfl, rfl, trivial⟩, ⟨hn4, hev, hms, hfr, hs_p0, hs_p1⟩, Nat.lt_succ_self _⟩
 refine c_exit ?_
 refine k_then_exit ?_
 have hx := some_inj h
 subst hx
 have hy := some_inj hn4
 subst hy
 replace h := h4
 refine k_then_exit ?_
 refine k_block_in ?_
 refine k_then ?_
 refine c_norm [] trivial (fun J => ?_)
 refine c_sp ?_
 refine x_u 1 [(4, .bool true)] ?_
 refine x_ek ?_
 refine c_ret ?_
 refine r_ret (r_vals [.bool true] ⟨rfl, trivial⟩ ?_)
 have hx := some_inj h
 subst hx
 have hmr : MS wl4 [M] := hms.pick [some 0] _ rfl
 have hsu : ∀ x ∈ fl [M], x ∈ fl [M] := pick_sub [some 0] _ rfl
 exact ⟨rfl, hev⟩
def gen_Lists_L4 (p0 : List (List Int)) (p1 : List (List Int)) (s : Int) : Option (Step Int (Unit ⊕ Unit)) :=
match s with
| i_s5_l4 =>
(if (decide (i_s5_l4 < ((p0).length : Int))) = true then
((idx p0 i_s5_l4).bind fun x6 =>
((idx p1 i_s5_l4).bind fun x10 =>
((gen_Ints x6 x10).bind fun x14 =>
(if (!x14) = true then
some (.done (.inl ()))
else
some (.next (IntKind.i64.wrap (i_s5_l4 + 1)))))))
else
some (.done (.inr ())))

def gen_Lists (p0 : List (List Int)) (p1 : List (List Int)) : Option Bool :=
(if (((p0).length : Int) != ((p1).length : Int)) = true then
some false
else
((loop (gen_Lists_L4 p0 p1) 0).bind fun d => match d with
| (.inl _) => some false
| (.inr _) => some true))

theorem gen_Lists_w (a_p0 : Option Addr) (c_p0 : Nat) (p0 : List (List Int)) (a_p1 : Option Addr) (c_p1 : Nat) (p1 : List (List Int)) (r : Bool) (w : World) (M : List Nat) (hms : MS w [M]) (hs_p0 : SlR (eSl (eInt .i64)) w (fl [M]) a_p0 c_p0 p0) (hs_p1 : SlR (eSl (eInt .i64)) w (fl [M]) a_p1 c_p1 p1) (h : gen_Lists p0 p1 = some r) : CallVC Try.prog 19 [Vl a_p0 p0 c_p0, Vl a_p1 p1 c_p1] w fun v w' => v = .bool r ∧ Ev [] w w' := by
 refine calls_vc hmx Try.func19 (by kernel_rfl) rfl (rs := [.tmp 4]) rfl (by kernel_rfl) (args := [Vl a_p0 p0 c_p0, Vl a_p1 p1 c_p1]) rfl ?_
 have hev : Ev [] w w := Ev.refl _ _
 have hfr : FR w.heap.size [] := FR.nil _
 refine c_sp ?_
 refine x_u 1 [(4, .bool false)] ?_
 refine x_ek ?_
 refine c_seq ?_
 refine c_sp ?_
 refine x_u 1 [(6, Vl a_p0 p0 c_p0)] ?_
 refine x_len (vs := [Vl a_p0 p0 c_p0]) (Vi ((p0).length : Int)) rfl rfl rfl (reads_len tsl26 _ _ _ _ _) ?_
 refine x_u 1 [(8, Vl a_p1 p1 c_p1)] ?_
 refine x_len (vs := [Vl a_p1 p1 c_p1]) (Vi ((p1).length : Int)) rfl rfl rfl (reads_len tsl26 _ _ _ _ _) ?_
 refine x_u 1 [(10, .bool (((p0).length : Int) != ((p1).length : Int)))] ?_
 refine x_ek ?_
 refine c_if (((p0).length : Int) != ((p1).length : Int)) rfl h (fun h => ?_) (fun h => ?_)
 · refine c_sp ?_
   refine x_u 1 [(4, .bool false)] ?_
   refine x_ek ?_
   refine c_ret ?_
   refine k_then_ret ?_
   refine r_ret (r_vals [.bool false] ⟨rfl, trivial⟩ ?_)
   have hx := some_inj h
   subst hx
   have hmr : MS w [M] := hms.pick [some 0] _ rfl
   have hsu : ∀ x ∈ fl [M], x ∈ fl [M] := pick_sub [some 0] _ rfl
   exact ⟨rfl, hev⟩
 refine c_skip ?_
 refine k_then ?_
 refine c_seq ?_
 refine c_sp ?_
 refine x_u 1 [(5, Vi 0)] ?_
 refine x_ek ?_
 refine c_block ?_
 obtain ⟨d4, hd4, h4⟩ := bind_some h
 obtain ⟨m4, hd4⟩ := loop_some hd4
 refine c_loop (loop_rule hmx (σ := Nat × Int) (fun s => match s with | (_, i_s5_l4) => [(0, Vl a_p0 p0 c_p0), (1, Vl a_p1 p1 c_p1), (5, Vi i_s5_l4)]) (fun s w' => match s with | (m, i_s5_l4) => loopN (gen_Lists_L4 p0 p1) m i_s5_l4 = some d4 ∧ Ev [] w w' ∧ MS w' [M] ∧ FR w.heap.size [] ∧ SlR (eSl (eInt .i64)) w' (fl [M]) a_p0 c_p0 p0 ∧ SlR (eSl (eInt .i64)) w' (fl [M]) a_p1 c_p1 p1) (fun s => s.1) (m4, 0) ⟨rfl, rfl, rfl, trivial⟩ ⟨hd4, hev, hms, hfr, hs_p0, hs_p1⟩ ?_)
 rintro ⟨m4, i_s5_l4⟩ J wl4 ⟨hn4, hev, hms, hfr, hs_p0, hs_p1⟩
 rcases m4 with _ | m4
 · exact (loopN_zero hn4).elim
 obtain ⟨t4, h, hn4⟩ := bind_some hn4
 refine c_seq ?_
 refine c_sp ?_
 refine x_u 2 [(11, Vi i_s5_l4), (12, Vl a_p0 p0 c_p0)] ?_
 refine x_len (vs := [Vl a_p0 p0 c_p0]) (Vi ((p0).length : Int)) rfl rfl rfl (reads_len tsl26 _ _ _ _ _) ?_
 refine x_u 1 [(14, .bool (decide (i_s5_l4 < ((p0).length : Int))))] ?_
 refine x_ek ?_
 refine c_norm [(0, Vl a_p0 p0 c_p0), (1, Vl a_p1 p1 c_p1), (5, Vi i_s5_l4), (14, .bool (decide (i_s5_l4 < ((p0).length : Int))))] ⟨rfl, rfl, rfl, rfl, trivial⟩ (fun J => ?_)
 refine c_if (decide (i_s5_l4 < ((p0).length : Int))) rfl h (fun h => ?_) (fun h => ?_)
 · refine c_skip ?_
   refine k_then ?_
   refine c_seq ?_
   refine c_block ?_
   refine c_seq ?_
   refine c_drawn [] [(0, false), (1, false), (2, false), (3, false), (4, false), (5, false), (6, false), (7, false), (8, true), (9, false)] _ (by kernel_rfl) rfl ?_
   have hst := Stp.ext (ls := [M]) (Ev.drew wl4)
   replace hs_p0 := hs_p0.step hst
   replace hs_p1 := hs_p1.step hst
   replace hms := hms.ev (Ev.drew wl4)
   replace hev := hev.ext (Ev.drew wl4)
   refine x_u 2 [(17, Vl a_p0 p0 c_p0), (18, Vi i_s5_l4)] ?_
   obtain ⟨x6, hx6, h⟩ := bind_some h
   obtain ⟨ad6, cs6, hr6, hc6, hR⟩ := reads_index (Mo := []) tsl26 hs_p0 hx6
   obtain ⟨a7, c7, rfl, hs7⟩ := hR
   refine x_indexAddr (xv := Vl a_p0 p0 c_p0) (yv := Vi i_s5_l4) (.pointer (some ad6)) rfl rfl rfl rfl hr6 ?_
   refine x_load (xv := .pointer (some ad6)) (Vl a7 x6 c7) rfl rfl rfl (reads_cell0 tcell22 hc6 (fun _ h => by cases h)) ?_
   refine x_u 2 [(21, Vl a_p1 p1 c_p1), (22, Vi i_s5_l4)] ?_
   obtain ⟨x10, hx10, h⟩ := bind_some h
   obtain ⟨ad10, cs10, hr10, hc10, hR⟩ := reads_index (Mo := []) tsl26 hs_p1 hx10
   obtain ⟨a11, c11, rfl, hs11⟩ := hR
   refine x_indexAddr (xv := Vl a_p1 p1 c_p1) (yv := Vi i_s5_l4) (.pointer (some ad10)) rfl rfl rfl rfl hr10 ?_
   refine x_load (xv := .pointer (some ad10)) (Vl a11 x10 c11) rfl rfl rfl (reads_cell0 tcell22 hc10 (fun _ h => by cases h)) ?_
   obtain ⟨x14, hx, h⟩ := bind_some h
   have hpk : MS (wl4).drew ([] ++ [M]) := hms.pick [some 0] _ rfl
   have hsb0 : ∀ x ∈ fl ([] ++ [M]), x ∈ fl [M] := pick_sub [some 0] _ rfl
   have hsb : ∀ x ∈ fl ([] ++ [(fl [M])]), x ∈ fl [M] := fun x hx => hsb0 x (fl_unfold x hx)
   have hcall := gen_Ints_w a7 c7 x6 a11 c11 x10 _ (wl4).drew (fl [M]) (MS.fold (P := []) hpk) (hs7.sub hsb) (hs11.sub hsb) hx
   refine x_call 12 #[] #[] [Vl a7 x6 c7, Vl a11 x10 c11] _ rfl rfl rfl rfl hcall ?_
   rintro v w15 ⟨rfl, he15⟩
   clear hcall hx
   refine inl1 ?_
   have hst := Stp.ext (ls := [M]) he15
   replace hs_p0 := hs_p0.step hst
   replace hs_p1 := hs_p1.step hst
   replace hs7 := hs7.step hst
   replace hc6 := hc6.step hst
   replace hs11 := hs11.step hst
   replace hc10 := hc10.step hst
   replace hms := hms.ev he15
   replace hev := hev.ext he15
   clear hpk hsb hsb0
   refine x_u 1 [(26, .bool (!x14))] ?_
   refine x_ek ?_
   refine c_if (!x14) rfl h (fun h => ?_) (fun h => ?_)
   · refine c_sp ?_
     refine x_u 1 [(4, .bool false)] ?_
     refine x_ek ?_
     refine c_ret ?_
     refine k_block_ret ?_
     refine k_then_ret ?_
     have hx := some_inj h
     subst hx
     have hy := some_inj hn4
     subst hy
     replace h := h4
     refine k_then_ret ?_
     refine k_block_ret ?_
     refine k_then_ret ?_
     refine r_ret (r_vals [.bool false] ⟨rfl, trivial⟩ ?_)
     have hx := some_inj h
     subst hx
     have hmr : MS w15 [M] := hms.pick [some 0] _ rfl
     have hsu : ∀ x ∈ fl [M], x ∈ fl [M] := pick_sub [some 0] _ rfl
     exact ⟨rfl, hev⟩
   refine c_skip ?_
   refine k_block ?_
   refine k_then ?_
   refine c_plain ?_
   refine x_u 3 [(15, Vi i_s5_l4), (16, Vi (IntKind.i64.wrap (i_s5_l4 + 1))), (5, Vi (IntKind.i64.wrap (i_s5_l4 + 1)))] ?_
   refine x_end rfl ?_
   have hx := some_inj h
   subst hx
   exact k_then ⟨(m4, IntKind.i64.wrap (i_s5_l4 + 1)), ⟨rfl, rfl, rfl, trivial⟩, ⟨hn4, hev, hms, hfr, hs_p0, hs_p1⟩, Nat.lt_succ_self _⟩
 refine c_exit ?_
 refine k_then_exit ?_
 have hx := some_inj h
 subst hx
 have hy := some_inj hn4
 subst hy
 replace h := h4
 refine k_then_exit ?_
 refine k_block_in ?_
 refine k_then ?_
 refine c_norm [] trivial (fun J => ?_)
 refine c_sp ?_
 refine x_u 1 [(4, .bool true)] ?_
 refine x_ek ?_
 refine c_ret ?_
 refine r_ret (r_vals [.bool true] ⟨rfl, trivial⟩ ?_)
 have hx := some_inj h
 subst hx
 have hmr : MS wl4 [M] := hms.pick [some 0] _ rfl
 have hsu : ∀ x ∈ fl [M], x ∈ fl [M] := pick_sub [some 0] _ rfl
 exact ⟨rfl, hev⟩
end Go.Proofs.Ytgeceohdppecgaa
