
/- Walks, printed by program: each function returns what the partial function of the same name returns. Conditions: those of each theorem. -/
import Derived.Test.YtlejnkhaphlooaaGreatGT
set_option linter.unusedVariables false
set_option linter.unusedSimpArgs false
set_option maxRecDepth 4000
namespace Go.Proofs.YtlejnkhaphlooaaGreat
open Go Go.V Go.Proofs
def gen_New (p0 : List Int) : Option ((List Int) × Int) :=
some (p0, 0)
theorem gen_New_w (a_p0 : Option Addr) (c_p0 : Nat) (p0 : List Int) (r : ((List Int) × Int)) (w : World) (M : List Nat) (hms : MS w [M]) (hs_p0 : SlR (eInt .i64) w (fl [M]) a_p0 c_p0 p0) (h : gen_New p0 = some r) : CallVC Tryz.prog 10 [Vl a_p0 p0 c_p0] w fun v w' => ∃ (b0' : Nat), ∃ (a1' : Option Addr), ∃ (c1' : Nat), v = .pointer (some ⟨b0', 0, none⟩) ∧ Ev [] w w' ∧ MS w' [[b0'], M] ∧ FR w.heap.size [[b0']] ∧ w'.heap[b0']? = some (.cells #[Vl a1' r.1 c1', Vi r.2] 90 (0, 0)) ∧ SlR (eInt .i64) w' (fl [[b0'], M]) a1' c1' r.1 := by
 refine calls_vc hmx Tryz.func10 (by kernel_rfl) rfl (rs := [.tmp 2]) rfl (by kernel_rfl) (args := [Vl a_p0 p0 c_p0]) rfl ?_
 have hev : Ev [] w w := Ev.refl _ _
 have hfr : FR w.heap.size [] := FR.nil _
 refine c_sp (x_u 1 [(2, .pointer none)] (x_ek (c_sp (x_u 1 [(3, Vl a_p0 p0 c_p0)] (x_build (vs := [(0, Vl a_p0 p0 c_p0)]) (.agg #[Vl a_p0 p0 c_p0, Vi 0]) rfl rfl rfl (fun _ _ => by kernel_rfl) ?_)))))
 refine x_box (xv := .agg #[Vl a_p0 p0 c_p0, Vi 0]) rfl rfl rfl (fun b2 w2 hq2 hb2 he2 hz2 => ?_)
 replace hb2 : w2.heap[b2]? = some (.cells #[Vl a_p0 p0 c_p0, Vi 0] 90 (0, 0)) := hb2
 refine inl1 ?_
 have hst := Stp.box (ls := [M]) he2 hq2
 replace hs_p0 := hs_p0.step hst
 replace hms := hms.box he2 hq2 hb2
 replace hfr := hfr.box hev.size hq2
 replace hev := hev.ext he2
 refine x_u 1 [(2, Vp b2 0)] (x_ek (c_ret (r_ret (r_vals [Vp b2 0] ⟨rfl, trivial⟩ ?_))))
 obtain rfl := some_inj h
 have hmr := hms.pick [some 0, some 1] [[b2], M] rfl
 have hsu := pick_sub (ls := [[b2], M]) [some 0, some 1] [[b2], M] rfl
 have hfe := hfr.pick [some 0] [[b2]] rfl
 exact ⟨b2, a_p0, c_p0, rfl, hev, hmr, hfe, hb2, hs_p0.sub hsu⟩
def gen_Maker_Next_J3 (p0_1 : Int) (p1 : Int) (x_s5_j3 : Int) : Option (Int × Int) :=
(if p1 ≠ 0 then
(if (decide ((Int.tmod x_s5_j3 p1) < 0)) = true then
some (IntKind.i64.wrap ((Int.tmod x_s5_j3 p1) + p1), IntKind.i64.wrap (p0_1 + 1))
else
some (Int.tmod x_s5_j3 p1, IntKind.i64.wrap (p0_1 + 1)))
else none)
def gen_Maker_Next (p0_0 : List Int) (p0_1 : Int) (p1 : Int) : Option (Int × Int) :=
(if (decide (((p0_0).length : Int) > 0)) = true then
(if ((p0_0).length : Int) ≠ 0 then
((idx p0_0 (Int.tmod p0_1 ((p0_0).length : Int))).bind fun x4 =>
(if ((p0_0).length : Int) ≠ 0 then
gen_Maker_Next_J3 p0_1 p1 (IntKind.i64.wrap (x4 + (IntKind.i64.wrap ((IntKind.i64.wrap (Int.tdiv p0_1 ((p0_0).length : Int))) * 7919))))
else none))
else none)
else
gen_Maker_Next_J3 p0_1 p1 0)
theorem gen_Maker_Next_w (b_p0 : Nat) (a_p0_0 : Option Addr) (c_p0_0 : Nat) (p0_0 : List Int) (p0_1 : Int) (p1 : Int) (r : Int × Int) (w : World) (M : List Nat) (hms : MS w [[b_p0], M]) (hs_p0_0 : SlR (eInt .i64) w (fl [[b_p0], M]) a_p0_0 c_p0_0 p0_0) (hb_p0 : w.heap[b_p0]? = some (.cells #[Vl a_p0_0 p0_0 c_p0_0, Vi p0_1] 90 (0, 0))) (h : gen_Maker_Next p0_0 p0_1 p1 = some r) : CallVC Tryz.prog 13 [Vp b_p0 0, Vi p1] w fun v w' => v = Vi r.1 ∧ Ev [b_p0] w w' ∧ w'.heap[b_p0]? = some (.cells #[Vl a_p0_0 p0_0 c_p0_0, Vi r.2] 90 (0, 0)) := by
 refine calls_vc hmx Tryz.func13 (by kernel_rfl) rfl (rs := [.tmp 4]) rfl (by kernel_rfl) (args := [Vp b_p0 0, Vi p1]) rfl ?_
 have hev : Ev [b_p0] w w := Ev.refl _ _
 have hfr : FR w.heap.size [] := FR.nil _
 refine c_sp (x_u 1 [(4, Vi 0)] (x_ek (c_sp (x_u 1 [(5, Vi 0)] (x_ek ?_)))))
 refine c_join (σ := Int) (fun s => match s with | x_s5_j3 => [(0, Vp b_p0 0), (1, Vi p1), (5, Vi x_s5_j3)]) (fun s w' => match s with | x_s5_j3 => gen_Maker_Next_J3 p0_1 p1 x_s5_j3 = some r ∧ Ev [b_p0] w w' ∧ MS w' [[b_p0], M] ∧ FR w.heap.size [] ∧ SlR (eInt .i64) w' (fl [[b_p0], M]) a_p0_0 c_p0_0 p0_0 ∧ w'.heap[b_p0]? = some (.cells #[Vl a_p0_0 p0_0 c_p0_0, Vi p0_1] 90 (0, 0))) ?_ ?_
 · refine c_sp (x_u 2 [(6, Vp b_p0 0), (7, Vp b_p0 0)] (x_fieldAddr (xv := Vp b_p0 0) (Vp b_p0 0) rfl rfl rfl (reads_field tfld90_0 _ _) (x_load (xv := Vp b_p0 0) (Vl a_p0_0 p0_0 c_p0_0) rfl rfl rfl (reads_box tcell22 hb_p0 nn 0 _ rfl) (x_len (vs := [Vl a_p0_0 p0_0 c_p0_0]) (Vi ((p0_0).length : Int)) rfl rfl rfl (reads_len tsl22 _ _ _ _ _) (x_u 1 [(11, .bool (decide (((p0_0).length : Int) > 0)))] ?_)))))
   refine x_ek (c_if (decide (((p0_0).length : Int) > 0)) rfl h (fun h => ?_) (fun h => ?_))
   · refine c_drawn [] [(0, false), (1, false), (2, false), (3, false), (4, false), (5, false), (6, false), (7, false), (8, false), (9, false), (10, false), (11, false), (12, false), (13, false), (14, false), (15, false), (16, false), (17, false), (18, false), (19, false), (20, false), (21, false), (22, false), (23, false), (24, false), (25, false), (26, false), (27, false), (28, false)] _ (by kernel_rfl) rfl ?_
     have hst := Stp.ext (ls := [[b_p0], M]) (Ev.drew w)
     replace hs_p0_0 := hs_p0_0.step hst
     replace hb_p0 := (Ev.drew w).box hb_p0 nn
     replace hms := hms.ev (Ev.drew w)
     replace hev := hev.ext (Ev.drew w)
     refine x_u 2 [(12, Vp b_p0 0), (13, Vp b_p0 0)] (x_fieldAddr (xv := Vp b_p0 0) (Vp b_p0 0) rfl rfl rfl (reads_field tfld90_0 _ _) (x_load (xv := Vp b_p0 0) (Vl a_p0_0 p0_0 c_p0_0) rfl rfl rfl (reads_box tcell22 hb_p0 nn 0 _ rfl) (x_u 2 [(16, Vp b_p0 0), (17, Vp b_p0 0)] (x_fieldAddr (xv := Vp b_p0 0) (Vp b_p0 1) rfl rfl rfl (reads_field tfld90_1 _ _) (x_load (xv := Vp b_p0 1) (Vi p0_1) rfl rfl rfl (reads_box tcell3 hb_p0 nn 1 _ rfl) ?_)))))
     refine x_u 2 [(20, Vp b_p0 0), (21, Vp b_p0 0)] (x_fieldAddr (xv := Vp b_p0 0) (Vp b_p0 0) rfl rfl rfl (reads_field tfld90_0 _ _) (x_load (xv := Vp b_p0 0) (Vl a_p0_0 p0_0 c_p0_0) rfl rfl rfl (reads_box tcell22 hb_p0 nn 0 _ rfl) (x_len (vs := [Vl a_p0_0 p0_0 c_p0_0]) (Vi ((p0_0).length : Int)) rfl rfl rfl (reads_len tsl22 _ _ _ _ _) (x_binop (Vi (Int.tmod p0_1 ((p0_0).length : Int))) (Vi p0_1) (Vi ((p0_0).length : Int)) rfl rfl rfl rfl (vb_rem (guard_l h)) ?_))))
     replace h := guard_r h
     obtain ⟨x4, hx4, h⟩ := bind_some h
     obtain ⟨ad4, cs4, hr4, hc4, hR⟩ := reads_index (Mo := []) tsl22 hs_p0_0 hx4
     obtain rfl := hR
     refine x_indexAddr (xv := Vl a_p0_0 p0_0 c_p0_0) (yv := Vi (Int.tmod p0_1 ((p0_0).length : Int))) (.pointer (some ad4)) rfl rfl rfl rfl hr4 (x_load (xv := .pointer (some ad4)) (Vi x4) rfl rfl rfl (reads_cell0 tcell3 hc4 (fun _ h => by cases h)) ?_)
     refine x_u 2 [(28, Vp b_p0 0), (29, Vp b_p0 0)] (x_fieldAddr (xv := Vp b_p0 0) (Vp b_p0 1) rfl rfl rfl (reads_field tfld90_1 _ _) (x_load (xv := Vp b_p0 1) (Vi p0_1) rfl rfl rfl (reads_box tcell3 hb_p0 nn 1 _ rfl) (x_u 2 [(32, Vp b_p0 0), (33, Vp b_p0 0)] (x_fieldAddr (xv := Vp b_p0 0) (Vp b_p0 0) rfl rfl rfl (reads_field tfld90_0 _ _) (x_load (xv := Vp b_p0 0) (Vl a_p0_0 p0_0 c_p0_0) rfl rfl rfl (reads_box tcell22 hb_p0 nn 0 _ rfl) ?_)))))
     refine x_len (vs := [Vl a_p0_0 p0_0 c_p0_0]) (Vi ((p0_0).length : Int)) rfl rfl rfl (reads_len tsl22 _ _ _ _ _) (x_binop (Vi (IntKind.i64.wrap (Int.tdiv p0_1 ((p0_0).length : Int)))) (Vi p0_1) (Vi ((p0_0).length : Int)) rfl rfl rfl rfl (vb_quo (guard_l h)) ?_)
     replace h := guard_r h
     refine x_u 3 [(38, Vi (IntKind.i64.wrap ((IntKind.i64.wrap (Int.tdiv p0_1 ((p0_0).length : Int))) * 7919))), (39, Vi (IntKind.i64.wrap (x4 + (IntKind.i64.wrap ((IntKind.i64.wrap (Int.tdiv p0_1 ((p0_0).length : Int))) * 7919))))), (5, Vi (IntKind.i64.wrap (x4 + (IntKind.i64.wrap ((IntKind.i64.wrap (Int.tdiv p0_1 ((p0_0).length : Int))) * 7919)))))] (x_end rfl ?_)
     exact k_then ⟨IntKind.i64.wrap (x4 + (IntKind.i64.wrap ((IntKind.i64.wrap (Int.tdiv p0_1 ((p0_0).length : Int))) * 7919))), ⟨rfl, rfl, rfl, trivial⟩, h, hev, hms, hfr, hs_p0_0, hb_p0⟩
   refine c_skip ?_
   exact k_then ⟨0, ⟨rfl, rfl, rfl, trivial⟩, h, hev, hms, hfr, hs_p0_0, hb_p0⟩
 rintro x_s5_j3 J wj3 ⟨h, hev, hms, hfr, hs_p0_0, hb_p0⟩
 refine c_sp (x_u 2 [(40, Vp b_p0 0), (41, Vp b_p0 0)] (x_fieldAddr (xv := Vp b_p0 0) (Vp b_p0 1) rfl rfl rfl (reads_field tfld90_1 _ _) (x_load (xv := Vp b_p0 1) (Vi p0_1) rfl rfl rfl (reads_box tcell3 hb_p0 nn 1 _ rfl) (x_u 2 [(44, Vi (IntKind.i64.wrap (p0_1 + 1))), (45, Vp b_p0 0)] (x_fieldAddr (xv := Vp b_p0 0) (Vp b_p0 1) rfl rfl rfl (reads_field tfld90_1 _ _) ?_)))))
 obtain ⟨w6, hr6, hb6, he6⟩ := store_box 1 (Vi (IntKind.i64.wrap (p0_1 + 1))) #[Vl a_p0_0 p0_0 c_p0_0, Vi (IntKind.i64.wrap (p0_1 + 1))] tcell3 hb_p0 rfl rfl rfl
 refine x_store w6 (xv := Vp b_p0 1) (yv := Vi (IntKind.i64.wrap (p0_1 + 1))) rfl rfl rfl rfl hr6 (inl1 ?_)
 replace hev := hev.then he6 (fun b hb => .inl (by simpa using hb))
 replace hb_p0 := hb6
 refine x_ek (c_nm [(1, Vi p1), (5, Vi x_s5_j3)] (fun J => ?_))
 refine c_sp (x_u 2 [(47, Vi x_s5_j3), (48, Vi p1)] (x_binop (Vi (Int.tmod x_s5_j3 p1)) (Vi x_s5_j3) (Vi p1) rfl rfl rfl rfl (vb_rem (guard_l h)) ?_))
 replace h := guard_r h
 refine x_u 1 [(5, Vi (Int.tmod x_s5_j3 p1))] (x_ek (c_seq (c_sp (x_u 2 [(50, Vi (Int.tmod x_s5_j3 p1)), (51, .bool (decide ((Int.tmod x_s5_j3 p1) < 0)))] (x_ek ?_)))))
 refine c_if (decide ((Int.tmod x_s5_j3 p1) < 0)) rfl h (fun h => ?_) (fun h => ?_)
 · refine c_plain (x_u 4 [(52, Vi (Int.tmod x_s5_j3 p1)), (53, Vi p1), (54, Vi (IntKind.i64.wrap ((Int.tmod x_s5_j3 p1) + p1))), (5, Vi (IntKind.i64.wrap ((Int.tmod x_s5_j3 p1) + p1)))] (x_ek (c_sp (x_u 2 [(55, Vi (IntKind.i64.wrap ((Int.tmod x_s5_j3 p1) + p1))), (4, Vi (IntKind.i64.wrap ((Int.tmod x_s5_j3 p1) + p1)))] (x_ek ?_)))))
   refine c_ret (r_ret (r_vals [Vi (IntKind.i64.wrap ((Int.tmod x_s5_j3 p1) + p1))] ⟨rfl, trivial⟩ ?_))
   obtain rfl := some_inj h
   exact ⟨rfl, hev, hb_p0⟩
 refine c_skip (k_then (c_sp (x_u 2 [(55, Vi (Int.tmod x_s5_j3 p1)), (4, Vi (Int.tmod x_s5_j3 p1))] (x_ek (c_ret ?_)))))
 refine r_ret (r_vals [Vi (Int.tmod x_s5_j3 p1)] ⟨rfl, trivial⟩ ?_)
 obtain rfl := some_inj h
 exact ⟨rfl, hev, hb_p0⟩
def gen_Maker_Pick (p0_0 : List Int) (p0_1 : Int) (p1 : List Int) : Option (Int × Int) :=
((gen_Maker_Next p0_0 p0_1 ((p1).length : Int)).bind fun x4 =>
((idx p1 x4.1).bind fun x6 =>
some (x6, x4.2)))
theorem gen_Maker_Pick_w (b_p0 : Nat) (a_p0_0 : Option Addr) (c_p0_0 : Nat) (p0_0 : List Int) (p0_1 : Int) (a_p1 : Option Addr) (c_p1 : Nat) (p1 : List Int) (r : Int × Int) (w : World) (M : List Nat) (hms : MS w [[b_p0], M]) (hs_p0_0 : SlR (eInt .i64) w (fl [[b_p0], M]) a_p0_0 c_p0_0 p0_0) (hb_p0 : w.heap[b_p0]? = some (.cells #[Vl a_p0_0 p0_0 c_p0_0, Vi p0_1] 90 (0, 0))) (hs_p1 : SlR (eInt .i64) w (fl [[b_p0], M]) a_p1 c_p1 p1) (h : gen_Maker_Pick p0_0 p0_1 p1 = some r) : CallVC Tryz.prog 26 [Vp b_p0 0, Vl a_p1 p1 c_p1] w fun v w' => v = Vi r.1 ∧ Ev [b_p0] w w' ∧ w'.heap[b_p0]? = some (.cells #[Vl a_p0_0 p0_0 c_p0_0, Vi r.2] 90 (0, 0)) := by
 refine calls_vc hmx Tryz.func26 (by kernel_rfl) rfl (rs := [.tmp 4]) rfl (by kernel_rfl) (args := [Vp b_p0 0, Vl a_p1 p1 c_p1]) rfl ?_
 have hev : Ev [b_p0] w w := Ev.refl _ _
 refine c_sp (x_u 1 [(4, Vi 0)] (x_ek (c_sp (x_u 3 [(5, Vl a_p1 p1 c_p1), (6, Vp b_p0 0), (7, Vl a_p1 p1 c_p1)] (x_len (vs := [Vl a_p1 p1 c_p1]) (Vi ((p1).length : Int)) rfl rfl rfl (reads_len tsl22 _ _ _ _ _) ?_)))))
 obtain ⟨x4, hx, h⟩ := bind_some h
 have hpk : MS w ([[b_p0]] ++ [M]) := hms.pick [some 0, some 1] _ rfl
 have hsb0 : ∀ x ∈ fl ([[b_p0]] ++ [M]), x ∈ fl [[b_p0], M] := pick_sub [some 0, some 1] _ rfl
 have hsb : ∀ x ∈ fl ([[b_p0]] ++ [(fl [M])]), x ∈ fl [[b_p0], M] := fun x hx => hsb0 x (fl_unfold x hx)
 have hcall := gen_Maker_Next_w b_p0 a_p0_0 c_p0_0 p0_0 p0_1 ((p1).length : Int) _ w (fl [M]) (hpk.fold (P := [[b_p0]])) (hs_p0_0.sub hsb) hb_p0 hx
 refine x_call 13 #[] #[] [Vp b_p0 0, Vi ((p1).length : Int)] _ rfl rfl rfl rfl hcall ?_
 rintro v w5 ⟨rfl, he5, hp5_0⟩
 clear hcall hx
 refine inl1 ?_
 have hsb2 : ∀ x ∈ fl ([[b_p0]] ++ [M]), x ∈ fl [[b_p0], M] := pick_sub [some 0, some 1] _ rfl
 have hst0 := Stp.call (LS := [[b_p0], M]) (res := []) (par := [[b_p0]]) (R := [M]) he5 (fun b hb => hsb2 b (fl_left' (P := [[b_p0]]) b hb)) (FR.nil _) (NP.init _ _) (fun x hx => hsb2 x (fl_right' (P := [[b_p0]]) x hx))
 have hsn : ∀ x ∈ fl [[b_p0], M], x ∈ fl ([] ++ ([[b_p0]] ++ [M])) := pick_sub [some 0, some 1] _ rfl
 have hst := hst0.res hsn
 replace hs_p1 := hs_p1.step hst
 replace hev := hev.then he5 (fun b hb => .inl (by simpa using hb))
 replace hb_p0 := hp5_0
 clear hpk hsb hsb0 hsb2 hst0 hsn hst
 obtain ⟨x6, hx6, h⟩ := bind_some h
 obtain ⟨ad6, cs6, hr6, hc6, hR⟩ := reads_index (Mo := []) tsl22 hs_p1 hx6
 obtain rfl := hR
 refine x_indexAddr (xv := Vl a_p1 p1 c_p1) (yv := Vi x4.1) (.pointer (some ad6)) rfl rfl rfl rfl hr6 (x_load (xv := .pointer (some ad6)) (Vi x6) rfl rfl rfl (reads_cell0 tcell3 hc6 (fun _ h => by cases h)) ?_)
 refine x_u 1 [(4, Vi x6)] (x_ek (c_ret (r_ret (r_vals [Vi x6] ⟨rfl, trivial⟩ ?_))))
 obtain rfl := some_inj h
 exact ⟨rfl, hev, hb_p0⟩
def gen_Maker_Items_J15 (p0_0 : List Int) (x5 : Int × Int) (x7 : Int × Int) (d13_l11 : List (Int × Int × Int × Int)) (i_s10_l11 : Int) (e2_j15_1 : Int) (round_s9_j15 : Int) : Option (Step (Int × (List (Int × Int × Int × Int)) × Int × Int) (Int × (List (Int × Int × Int × Int)))) :=
((gen_Maker_Next p0_0 e2_j15_1 (IntKind.i64.wrap (1 + x5.1))).bind fun x21 =>
((gen_Maker_Next p0_0 x21.2 (IntKind.i64.wrap (1 + x7.1))).bind fun x23 =>
((gen_Maker_Pick p0_0 x23.2 ([80, 142, 199, 262])).bind fun x27 =>
(if d13_l11.length + ([(x21.1, x23.1, round_s9_j15, x27.1)] : List (Int × Int × Int × Int)).length ≤ 4294967296 then
some (.next (x27.2, (d13_l11 ++ ([(x21.1, x23.1, round_s9_j15, x27.1)] : List (Int × Int × Int × Int))), round_s9_j15, IntKind.i64.wrap (i_s10_l11 - 1)))
else none))))
def gen_Maker_Items_J16 (p0_0 : List Int) (x5 : Int × Int) (x7 : Int × Int) (d13_l11 : List (Int × Int × Int × Int)) (round_s9_l11 : Int) (i_s10_l11 : Int) (e2_j16_1 : Int) (t33__s33_j16 : Bool) : Option (Step (Int × (List (Int × Int × Int × Int)) × Int × Int) (Int × (List (Int × Int × Int × Int)))) :=
(if t33__s33_j16 = true then
((gen_Maker_Next p0_0 e2_j16_1 3).bind fun x19 =>
gen_Maker_Items_J15 p0_0 x5 x7 d13_l11 i_s10_l11 x19.2 (if 4 < (IntKind.i64.wrap (round_s9_l11 + x19.1)) then 4 else (IntKind.i64.wrap (round_s9_l11 + x19.1))))
else
gen_Maker_Items_J15 p0_0 x5 x7 d13_l11 i_s10_l11 e2_j16_1 round_s9_l11)
def gen_Maker_Items_L11 (p0_0 : List Int) (x3 : Int × Int) (x5 : Int × Int) (x7 : Int × Int) (s : Int × (List (Int × Int × Int × Int)) × Int × Int) : Option (Step (Int × (List (Int × Int × Int × Int)) × Int × Int) (Int × (List (Int × Int × Int × Int)))) :=
match s with
| (e2_l11_1, d13_l11, round_s9_l11, i_s10_l11) =>
(if (decide (i_s10_l11 > 0)) = true then
(if (x3.1 == 0) = true then
((gen_Maker_Next p0_0 e2_l11_1 4).bind fun x17 =>
gen_Maker_Items_J16 p0_0 x5 x7 d13_l11 round_s9_l11 i_s10_l11 x17.2 (x17.1 == 0))
else
gen_Maker_Items_J16 p0_0 x5 x7 d13_l11 round_s9_l11 i_s10_l11 e2_l11_1 false)
else
some (.done (e2_l11_1, d13_l11)))
def gen_Maker_Items (p0_0 : List Int) (p0_1 : Int) (p1 : Int) : Option ((List (Int × Int × Int × Int)) × Int) :=
((gen_Maker_Next p0_0 p0_1 4).bind fun x3 =>
((gen_Maker_Next p0_0 x3.2 3).bind fun x5 =>
((gen_Maker_Next p0_0 x5.2 6).bind fun x7 =>
((gen_Maker_Next p0_0 x7.2 (IntKind.i64.wrap (p1 + 1))).bind fun x9 =>
((loop (gen_Maker_Items_L11 p0_0 x3 x5 x7) (x9.2, ([] : List (Int × Int × Int × Int)), 0, x9.1)).bind fun d => match d with
| (e2_x11_1, d13_x11) => some (d13_x11, e2_x11_1))))))
theorem gen_Maker_Items_w (b_p0 : Nat) (a_p0_0 : Option Addr) (c_p0_0 : Nat) (p0_0 : List Int) (p0_1 : Int) (p1 : Int) (r : (List (Int × Int × Int × Int)) × Int) (w : World) (M : List Nat) (hms : MS w [[b_p0], M]) (hs_p0_0 : SlR (eInt .i64) w (fl [[b_p0], M]) a_p0_0 c_p0_0 p0_0) (hb_p0 : w.heap[b_p0]? = some (.cells #[Vl a_p0_0 p0_0 c_p0_0, Vi p0_1] 90 (0, 0))) (h : gen_Maker_Items p0_0 p0_1 p1 = some r) : CallVC Tryz.prog 19 [Vp b_p0 0, Vi p1] w fun v w' => ∃ (a0' : Option Addr), ∃ (c0' : Nat), v = Vl a0' r.1 c0' ∧ Ev [b_p0] w w' ∧ w'.heap[b_p0]? = some (.cells #[Vl a_p0_0 p0_0 c_p0_0, Vi r.2] 90 (0, 0)) ∧ MS w' [blk a0', [b_p0], M] ∧ FR w.heap.size [blk a0'] ∧ OwnS (eIt4) 76 w' (fl [blk a0', [b_p0], M]) a0' c0' r.1 := by
 refine calls_vc hmx Tryz.func19 (by kernel_rfl) rfl (rs := [.tmp 4]) rfl (by kernel_rfl) (args := [Vp b_p0 0, Vi p1]) rfl ?_
 have hev : Ev [b_p0] w w := Ev.refl _ _
 have hfr : FR w.heap.size [] := FR.nil _
 refine c_sp (x_u 1 [(4, .slice none 0 0)] (x_ek (c_sp (x_u 1 [(5, .slice none 0 0)] (x_ek ?_)))))
 refine c_sp (x_u 1 [(11, Vp b_p0 0)] ?_)
 obtain ⟨x3, hx, h⟩ := bind_some h
 have hpk : MS w ([[b_p0]] ++ [M]) := hms.pick [some 0, some 1] _ rfl
 have hsb0 : ∀ x ∈ fl ([[b_p0]] ++ [M]), x ∈ fl [[b_p0], M] := pick_sub [some 0, some 1] _ rfl
 have hsb : ∀ x ∈ fl ([[b_p0]] ++ [(fl [M])]), x ∈ fl [[b_p0], M] := fun x hx => hsb0 x (fl_unfold x hx)
 have hcall := gen_Maker_Next_w b_p0 a_p0_0 c_p0_0 p0_0 p0_1 4 _ w (fl [M]) (hpk.fold (P := [[b_p0]])) (hs_p0_0.sub hsb) hb_p0 hx
 refine x_call 13 #[] #[] [Vp b_p0 0, Vi 4] _ rfl rfl rfl rfl hcall ?_
 rintro v w4 ⟨rfl, he4, hp4_0⟩
 clear hcall hx
 refine inl1 ?_
 have hsb2 : ∀ x ∈ fl ([[b_p0]] ++ [M]), x ∈ fl [[b_p0], M] := pick_sub [some 0, some 1] _ rfl
 have hst0 := Stp.call (LS := [[b_p0], M]) (res := []) (par := [[b_p0]]) (R := [M]) he4 (fun b hb => hsb2 b (fl_left' (P := [[b_p0]]) b hb)) (FR.nil _) (NP.init _ _) (fun x hx => hsb2 x (fl_right' (P := [[b_p0]]) x hx))
 have hsn : ∀ x ∈ fl [[b_p0], M], x ∈ fl ([] ++ ([[b_p0]] ++ [M])) := pick_sub [some 0, some 1] _ rfl
 have hst := hst0.res hsn
 replace hs_p0_0 := hs_p0_0.step hst
 replace hms := hms.ev he4
 replace hev := hev.then he4 (fun b hb => .inl (by simpa using hb))
 replace hb_p0 := hp4_0
 clear hpk hsb hsb0 hsb2 hst0 hsn hst
 refine x_u 2 [(13, .bool (x3.1 == 0)), (14, Vp b_p0 0)] ?_
 obtain ⟨x5, hx, h⟩ := bind_some h
 have hpk : MS w4 ([[b_p0]] ++ [M]) := hms.pick [some 0, some 1] _ rfl
 have hsb0 : ∀ x ∈ fl ([[b_p0]] ++ [M]), x ∈ fl [[b_p0], M] := pick_sub [some 0, some 1] _ rfl
 have hsb : ∀ x ∈ fl ([[b_p0]] ++ [(fl [M])]), x ∈ fl [[b_p0], M] := fun x hx => hsb0 x (fl_unfold x hx)
 have hcall := gen_Maker_Next_w b_p0 a_p0_0 c_p0_0 p0_0 x3.2 3 _ w4 (fl [M]) (hpk.fold (P := [[b_p0]])) (hs_p0_0.sub hsb) hb_p0 hx
 refine x_call 13 #[] #[] [Vp b_p0 0, Vi 3] _ rfl rfl rfl rfl hcall ?_
 rintro v w6 ⟨rfl, he6, hp6_0⟩
 clear hcall hx
 refine inl1 ?_
 have hsb2 : ∀ x ∈ fl ([[b_p0]] ++ [M]), x ∈ fl [[b_p0], M] := pick_sub [some 0, some 1] _ rfl
 have hst0 := Stp.call (LS := [[b_p0], M]) (res := []) (par := [[b_p0]]) (R := [M]) he6 (fun b hb => hsb2 b (fl_left' (P := [[b_p0]]) b hb)) (FR.nil _) (NP.init _ _) (fun x hx => hsb2 x (fl_right' (P := [[b_p0]]) x hx))
 have hsn : ∀ x ∈ fl [[b_p0], M], x ∈ fl ([] ++ ([[b_p0]] ++ [M])) := pick_sub [some 0, some 1] _ rfl
 have hst := hst0.res hsn
 replace hs_p0_0 := hs_p0_0.step hst
 replace hms := hms.ev he6
 replace hev := hev.then he6 (fun b hb => .inl (by simpa using hb))
 replace hb_p0 := hp6_0
 clear hpk hsb hsb0 hsb2 hst0 hsn hst
 refine x_u 2 [(16, Vi (IntKind.i64.wrap (1 + x5.1))), (17, Vp b_p0 0)] ?_
 obtain ⟨x7, hx, h⟩ := bind_some h
 have hpk : MS w6 ([[b_p0]] ++ [M]) := hms.pick [some 0, some 1] _ rfl
 have hsb0 : ∀ x ∈ fl ([[b_p0]] ++ [M]), x ∈ fl [[b_p0], M] := pick_sub [some 0, some 1] _ rfl
 have hsb : ∀ x ∈ fl ([[b_p0]] ++ [(fl [M])]), x ∈ fl [[b_p0], M] := fun x hx => hsb0 x (fl_unfold x hx)
 have hcall := gen_Maker_Next_w b_p0 a_p0_0 c_p0_0 p0_0 x5.2 6 _ w6 (fl [M]) (hpk.fold (P := [[b_p0]])) (hs_p0_0.sub hsb) hb_p0 hx
 refine x_call 13 #[] #[] [Vp b_p0 0, Vi 6] _ rfl rfl rfl rfl hcall ?_
 rintro v w8 ⟨rfl, he8, hp8_0⟩
 clear hcall hx
 refine inl1 ?_
 have hsb2 : ∀ x ∈ fl ([[b_p0]] ++ [M]), x ∈ fl [[b_p0], M] := pick_sub [some 0, some 1] _ rfl
 have hst0 := Stp.call (LS := [[b_p0], M]) (res := []) (par := [[b_p0]]) (R := [M]) he8 (fun b hb => hsb2 b (fl_left' (P := [[b_p0]]) b hb)) (FR.nil _) (NP.init _ _) (fun x hx => hsb2 x (fl_right' (P := [[b_p0]]) x hx))
 have hsn : ∀ x ∈ fl [[b_p0], M], x ∈ fl ([] ++ ([[b_p0]] ++ [M])) := pick_sub [some 0, some 1] _ rfl
 have hst := hst0.res hsn
 replace hs_p0_0 := hs_p0_0.step hst
 replace hms := hms.ev he8
 replace hev := hev.then he8 (fun b hb => .inl (by simpa using hb))
 replace hb_p0 := hp8_0
 clear hpk hsb hsb0 hsb2 hst0 hsn hst
 refine x_u 4 [(19, Vi (IntKind.i64.wrap (1 + x7.1))), (6, .bool (x3.1 == 0)), (7, Vi (IntKind.i64.wrap (1 + x5.1))), (8, Vi (IntKind.i64.wrap (1 + x7.1)))] (x_ek (c_nm [(0, Vp b_p0 0), (1, Vi p1), (5, .slice none 0 0), (6, .bool (x3.1 == 0)), (7, Vi (IntKind.i64.wrap (1 + x5.1))), (8, Vi (IntKind.i64.wrap (1 + x7.1)))] (fun J => ?_)))
 refine c_sp (x_u 1 [(9, Vi 0)] (x_ek (c_seq (c_sp (x_u 3 [(20, Vp b_p0 0), (21, Vi p1), (22, Vi (IntKind.i64.wrap (p1 + 1)))] ?_)))))
 obtain ⟨x9, hx, h⟩ := bind_some h
 have hpk : MS w8 ([[b_p0]] ++ [M]) := hms.pick [some 0, some 1] _ rfl
 have hsb0 : ∀ x ∈ fl ([[b_p0]] ++ [M]), x ∈ fl [[b_p0], M] := pick_sub [some 0, some 1] _ rfl
 have hsb : ∀ x ∈ fl ([[b_p0]] ++ [(fl [M])]), x ∈ fl [[b_p0], M] := fun x hx => hsb0 x (fl_unfold x hx)
 have hcall := gen_Maker_Next_w b_p0 a_p0_0 c_p0_0 p0_0 x7.2 (IntKind.i64.wrap (p1 + 1)) _ w8 (fl [M]) (hpk.fold (P := [[b_p0]])) (hs_p0_0.sub hsb) hb_p0 hx
 refine x_call 13 #[] #[] [Vp b_p0 0, Vi (IntKind.i64.wrap (p1 + 1))] _ rfl rfl rfl rfl hcall ?_
 rintro v w10 ⟨rfl, he10, hp10_0⟩
 clear hcall hx
 refine inl1 ?_
 have hsb2 : ∀ x ∈ fl ([[b_p0]] ++ [M]), x ∈ fl [[b_p0], M] := pick_sub [some 0, some 1] _ rfl
 have hst0 := Stp.call (LS := [[b_p0], M]) (res := []) (par := [[b_p0]]) (R := [M]) he10 (fun b hb => hsb2 b (fl_left' (P := [[b_p0]]) b hb)) (FR.nil _) (NP.init _ _) (fun x hx => hsb2 x (fl_right' (P := [[b_p0]]) x hx))
 have hsn : ∀ x ∈ fl [[b_p0], M], x ∈ fl ([] ++ ([[b_p0]] ++ [M])) := pick_sub [some 0, some 1] _ rfl
 have hst := hst0.res hsn
 replace hs_p0_0 := hs_p0_0.step hst
 replace hms := hms.ev he10
 replace hev := hev.then he10 (fun b hb => .inl (by simpa using hb))
 replace hb_p0 := hp10_0
 clear hpk hsb hsb0 hsb2 hst0 hsn hst
 refine x_u 1 [(10, Vi x9.1)] (x_ek (c_block ?_))
 have hst := Stp.push (ls := [[b_p0], M]) (l := blk none) (Ev.refl [] w10) (fun _ h => by cases h) (fun _ h => by cases h)
 replace hs_p0_0 := hs_p0_0.step hst
 replace hb_p0 := (Ev.refl [] _).box hb_p0 nn
 replace hms := hms.push (l := blk none) (Ev.refl [] _) (fun _ h => by cases h)
 replace hfr := hfr.push (l := blk none) (fun _ h => by cases h)
 have ho12 := OwnS.nil (eIt4) 76 w10 (fl [blk none, [b_p0], M])
 obtain ⟨d11, hd11, h11⟩ := bind_some h
 obtain ⟨m11, hd11⟩ := loop_some hd11
 refine c_loop (loop_rule hmx (σ := Nat × Int × (List (Int × Int × Int × Int)) × Int × Int × Option Addr × Nat) (fun s => match s with | (_, e2_l11_1, d13_l11, round_s9_l11, i_s10_l11, a13_l11, c13_l11) => [(0, Vp b_p0 0), (5, Vl a13_l11 d13_l11 c13_l11), (6, .bool (x3.1 == 0)), (7, Vi (IntKind.i64.wrap (1 + x5.1))), (8, Vi (IntKind.i64.wrap (1 + x7.1))), (9, Vi round_s9_l11), (10, Vi i_s10_l11)]) (fun s w' => match s with | (m, e2_l11_1, d13_l11, round_s9_l11, i_s10_l11, a13_l11, c13_l11) => loopN (gen_Maker_Items_L11 p0_0 x3 x5 x7) m (e2_l11_1, d13_l11, round_s9_l11, i_s10_l11) = some d11 ∧ Ev [b_p0] w w' ∧ MS w' [blk a13_l11, [b_p0], M] ∧ FR w.heap.size [blk a13_l11] ∧ SlR (eInt .i64) w' (fl [blk a13_l11, [b_p0], M]) a_p0_0 c_p0_0 p0_0 ∧ w'.heap[b_p0]? = some (.cells #[Vl a_p0_0 p0_0 c_p0_0, Vi e2_l11_1] 90 (0, 0)) ∧ OwnS (eIt4) 76 w' (fl [blk a13_l11, [b_p0], M]) a13_l11 c13_l11 d13_l11) (fun s => s.1) (m11, x9.2, ([] : List (Int × Int × Int × Int)), 0, x9.1, none, 0) ⟨rfl, rfl, rfl, rfl, rfl, rfl, rfl, trivial⟩ ⟨hd11, hev, hms, hfr, hs_p0_0, hb_p0, ho12⟩ ?_)
 rintro ⟨m11, e2_l11_1, d13_l11, round_s9_l11, i_s10_l11, a13_l11, c13_l11⟩ J wl11 ⟨hn11, hev, hms, hfr, hs_p0_0, hb_p0, hj13_l11⟩
 rcases m11 with _ | m11
 · exact (loopN_zero hn11).elim
 obtain ⟨t11, h, hn11⟩ := bind_some hn11
 refine c_seq (c_sp (x_u 2 [(24, Vi i_s10_l11), (25, .bool (decide (i_s10_l11 > 0)))] (x_ek (c_nm [(0, Vp b_p0 0), (5, Vl a13_l11 d13_l11 c13_l11), (6, .bool (x3.1 == 0)), (7, Vi (IntKind.i64.wrap (1 + x5.1))), (8, Vi (IntKind.i64.wrap (1 + x7.1))), (9, Vi round_s9_l11), (10, Vi i_s10_l11), (25, .bool (decide (i_s10_l11 > 0)))] (fun J => ?_)))))
 refine c_if (decide (i_s10_l11 > 0)) rfl h (fun h => ?_) (fun h => ?_)
 · refine c_skip (k_then (c_seq (c_block (c_join (σ := Int × Int) (fun s => match s with | (e2_j15_1, round_s9_j15) => [(0, Vp b_p0 0), (5, Vl a13_l11 d13_l11 c13_l11), (6, .bool (x3.1 == 0)), (7, Vi (IntKind.i64.wrap (1 + x5.1))), (8, Vi (IntKind.i64.wrap (1 + x7.1))), (9, Vi round_s9_j15), (10, Vi i_s10_l11)]) (fun s w' => match s with | (e2_j15_1, round_s9_j15) => gen_Maker_Items_J15 p0_0 x5 x7 d13_l11 i_s10_l11 e2_j15_1 round_s9_j15 = some t11 ∧ Ev [b_p0] w w' ∧ MS w' [blk a13_l11, [b_p0], M] ∧ FR w.heap.size [blk a13_l11] ∧ SlR (eInt .i64) w' (fl [blk a13_l11, [b_p0], M]) a_p0_0 c_p0_0 p0_0 ∧ w'.heap[b_p0]? = some (.cells #[Vl a_p0_0 p0_0 c_p0_0, Vi e2_j15_1] 90 (0, 0)) ∧ OwnS (eIt4) 76 w' (fl [blk a13_l11, [b_p0], M]) a13_l11 c13_l11 d13_l11) ?_ ?_))))
   · refine c_join (σ := Int × Bool) (fun s => match s with | (e2_j16_1, t33__s33_j16) => [(0, Vp b_p0 0), (5, Vl a13_l11 d13_l11 c13_l11), (6, .bool (x3.1 == 0)), (7, Vi (IntKind.i64.wrap (1 + x5.1))), (8, Vi (IntKind.i64.wrap (1 + x7.1))), (9, Vi round_s9_l11), (10, Vi i_s10_l11), (33, .bool t33__s33_j16)]) (fun s w' => match s with | (e2_j16_1, t33__s33_j16) => gen_Maker_Items_J16 p0_0 x5 x7 d13_l11 round_s9_l11 i_s10_l11 e2_j16_1 t33__s33_j16 = some t11 ∧ Ev [b_p0] w w' ∧ MS w' [blk a13_l11, [b_p0], M] ∧ FR w.heap.size [blk a13_l11] ∧ SlR (eInt .i64) w' (fl [blk a13_l11, [b_p0], M]) a_p0_0 c_p0_0 p0_0 ∧ w'.heap[b_p0]? = some (.cells #[Vl a_p0_0 p0_0 c_p0_0, Vi e2_j16_1] 90 (0, 0)) ∧ OwnS (eIt4) 76 w' (fl [blk a13_l11, [b_p0], M]) a13_l11 c13_l11 d13_l11) ?_ ?_
     · refine c_plain (x_u 2 [(28, .bool (x3.1 == 0)), (29, .bool (x3.1 == 0))] (x_if 29 (x3.1 == 0) rfl h (fun h => ?_) (fun h => ?_)))
       · refine x_u 1 [(30, Vp b_p0 0)] ?_
         obtain ⟨x17, hx, h⟩ := bind_some h
         have hpk : MS wl11 ([[b_p0]] ++ [blk a13_l11, M]) := hms.pick [some 1, some 0, some 2] _ rfl
         have hsb0 : ∀ x ∈ fl ([[b_p0]] ++ [blk a13_l11, M]), x ∈ fl [blk a13_l11, [b_p0], M] := pick_sub [some 1, some 0, some 2] _ rfl
         have hsb : ∀ x ∈ fl ([[b_p0]] ++ [(fl [blk a13_l11, M])]), x ∈ fl [blk a13_l11, [b_p0], M] := fun x hx => hsb0 x (fl_unfold x hx)
         have hcall := gen_Maker_Next_w b_p0 a_p0_0 c_p0_0 p0_0 e2_l11_1 4 _ wl11 (fl [blk a13_l11, M]) (hpk.fold (P := [[b_p0]])) (hs_p0_0.sub hsb) hb_p0 hx
         refine x_call 13 #[] #[] [Vp b_p0 0, Vi 4] _ rfl rfl rfl rfl hcall ?_
         rintro v w18 ⟨rfl, he18, hp18_0⟩
         clear hcall hx
         refine inl1 ?_
         have hpk2 : MS wl11 ([[b_p0]] ++ [blk a13_l11, M]) := hms.pick [some 1, some 0, some 2] _ rfl
         have hsb2 : ∀ x ∈ fl ([[b_p0]] ++ [blk a13_l11, M]), x ∈ fl [blk a13_l11, [b_p0], M] := pick_sub [some 1, some 0, some 2] _ rfl
         have hst0 := Stp.call (LS := [blk a13_l11, [b_p0], M]) (res := []) (par := [[b_p0]]) (R := [blk a13_l11, M]) he18 (fun b hb => hsb2 b (fl_left' (P := [[b_p0]]) b hb)) (FR.nil _) (NP.init _ _) (fun x hx => hsb2 x (fl_right' (P := [[b_p0]]) x hx))
         have hsn : ∀ x ∈ fl [blk a13_l11, [b_p0], M], x ∈ fl ([] ++ ([[b_p0]] ++ [blk a13_l11, M])) := pick_sub [some 1, some 0, some 2] _ rfl
         have hst := hst0.res hsn
         replace hs_p0_0 := hs_p0_0.step hst
         replace hj13_l11 := hj13_l11.step hst he18 (MS.outs (P := [[b_p0]]) hpk2 0 rfl)
         replace hms := hms.ev he18
         replace hev := hev.then he18 (fun b hb => .inl (by simpa using hb))
         replace hb_p0 := hp18_0
         clear hpk hsb hsb0 hpk2 hsb2 hst0 hsn hst
         refine x_u 2 [(32, .bool (x17.1 == 0)), (33, .bool (x17.1 == 0))] (x_end rfl ?_)
         exact k_then ⟨(x17.2, x17.1 == 0), ⟨rfl, rfl, rfl, rfl, rfl, rfl, rfl, rfl, trivial⟩, h, hev, hms, hfr, hs_p0_0, hb_p0, hj13_l11⟩
       refine x_u 4 [(30, undef), (31, undef), (32, undef), (33, .bool false)] (x_end rfl ?_)
       exact k_then ⟨(e2_l11_1, false), ⟨rfl, rfl, rfl, rfl, rfl, rfl, rfl, rfl, trivial⟩, h, hev, hms, hfr, hs_p0_0, hb_p0, hj13_l11⟩
     rintro ⟨e2_j16_1, t33__s33_j16⟩ J wj16 ⟨h, hev, hms, hfr, hs_p0_0, hb_p0, hj13_l11⟩
     refine c_if t33__s33_j16 rfl h (fun h => ?_) (fun h => ?_)
     · refine c_plain (x_u 2 [(34, Vi round_s9_l11), (35, Vp b_p0 0)] ?_)
       obtain ⟨x19, hx, h⟩ := bind_some h
       have hpk : MS wj16 ([[b_p0]] ++ [blk a13_l11, M]) := hms.pick [some 1, some 0, some 2] _ rfl
       have hsb0 : ∀ x ∈ fl ([[b_p0]] ++ [blk a13_l11, M]), x ∈ fl [blk a13_l11, [b_p0], M] := pick_sub [some 1, some 0, some 2] _ rfl
       have hsb : ∀ x ∈ fl ([[b_p0]] ++ [(fl [blk a13_l11, M])]), x ∈ fl [blk a13_l11, [b_p0], M] := fun x hx => hsb0 x (fl_unfold x hx)
       have hcall := gen_Maker_Next_w b_p0 a_p0_0 c_p0_0 p0_0 e2_j16_1 3 _ wj16 (fl [blk a13_l11, M]) (hpk.fold (P := [[b_p0]])) (hs_p0_0.sub hsb) hb_p0 hx
       refine x_call 13 #[] #[] [Vp b_p0 0, Vi 3] _ rfl rfl rfl rfl hcall ?_
       rintro v w20 ⟨rfl, he20, hp20_0⟩
       clear hcall hx
       refine inl1 ?_
       have hpk2 : MS wj16 ([[b_p0]] ++ [blk a13_l11, M]) := hms.pick [some 1, some 0, some 2] _ rfl
       have hsb2 : ∀ x ∈ fl ([[b_p0]] ++ [blk a13_l11, M]), x ∈ fl [blk a13_l11, [b_p0], M] := pick_sub [some 1, some 0, some 2] _ rfl
       have hst0 := Stp.call (LS := [blk a13_l11, [b_p0], M]) (res := []) (par := [[b_p0]]) (R := [blk a13_l11, M]) he20 (fun b hb => hsb2 b (fl_left' (P := [[b_p0]]) b hb)) (FR.nil _) (NP.init _ _) (fun x hx => hsb2 x (fl_right' (P := [[b_p0]]) x hx))
       have hsn : ∀ x ∈ fl [blk a13_l11, [b_p0], M], x ∈ fl ([] ++ ([[b_p0]] ++ [blk a13_l11, M])) := pick_sub [some 1, some 0, some 2] _ rfl
       have hst := hst0.res hsn
       replace hs_p0_0 := hs_p0_0.step hst
       replace hj13_l11 := hj13_l11.step hst he20 (MS.outs (P := [[b_p0]]) hpk2 0 rfl)
       replace hms := hms.ev he20
       replace hev := hev.then he20 (fun b hb => .inl (by simpa using hb))
       replace hb_p0 := hp20_0
       clear hpk hsb hsb0 hpk2 hsb2 hst0 hsn hst
       refine x_u 1 [(37, Vi (IntKind.i64.wrap (round_s9_l11 + x19.1)))] (x_min (vs := [Vi (IntKind.i64.wrap (round_s9_l11 + x19.1)), Vi 4]) (Vi (if 4 < (IntKind.i64.wrap (round_s9_l11 + x19.1)) then 4 else (IntKind.i64.wrap (round_s9_l11 + x19.1)))) rfl rfl rfl (fun _ _ => rfl) (x_u 1 [(9, Vi (if 4 < (IntKind.i64.wrap (round_s9_l11 + x19.1)) then 4 else (IntKind.i64.wrap (round_s9_l11 + x19.1))))] (x_end rfl ?_)))
       exact k_then ⟨(x19.2, if 4 < (IntKind.i64.wrap (round_s9_l11 + x19.1)) then 4 else (IntKind.i64.wrap (round_s9_l11 + x19.1))), ⟨rfl, rfl, rfl, rfl, rfl, rfl, rfl, trivial⟩, h, hev, hms, hfr, hs_p0_0, hb_p0, hj13_l11⟩
     refine c_skip ?_
     exact k_then ⟨(e2_j16_1, round_s9_l11), ⟨rfl, rfl, rfl, rfl, rfl, rfl, rfl, trivial⟩, h, hev, hms, hfr, hs_p0_0, hb_p0, hj13_l11⟩
   rintro ⟨e2_j15_1, round_s9_j15⟩ J wj15 ⟨h, hev, hms, hfr, hs_p0_0, hb_p0, hj13_l11⟩
   refine c_plain (x_u 3 [(39, Vl a13_l11 d13_l11 c13_l11), (40, Vp b_p0 0), (41, Vi (IntKind.i64.wrap (1 + x5.1)))] ?_)
   obtain ⟨x21, hx, h⟩ := bind_some h
   have hpk : MS wj15 ([[b_p0]] ++ [blk a13_l11, M]) := hms.pick [some 1, some 0, some 2] _ rfl
   have hsb0 : ∀ x ∈ fl ([[b_p0]] ++ [blk a13_l11, M]), x ∈ fl [blk a13_l11, [b_p0], M] := pick_sub [some 1, some 0, some 2] _ rfl
   have hsb : ∀ x ∈ fl ([[b_p0]] ++ [(fl [blk a13_l11, M])]), x ∈ fl [blk a13_l11, [b_p0], M] := fun x hx => hsb0 x (fl_unfold x hx)
   have hcall := gen_Maker_Next_w b_p0 a_p0_0 c_p0_0 p0_0 e2_j15_1 (IntKind.i64.wrap (1 + x5.1)) _ wj15 (fl [blk a13_l11, M]) (hpk.fold (P := [[b_p0]])) (hs_p0_0.sub hsb) hb_p0 hx
   refine x_call 13 #[] #[] [Vp b_p0 0, Vi (IntKind.i64.wrap (1 + x5.1))] _ rfl rfl rfl rfl hcall ?_
   rintro v w22 ⟨rfl, he22, hp22_0⟩
   clear hcall hx
   refine inl1 ?_
   have hpk2 : MS wj15 ([[b_p0]] ++ [blk a13_l11, M]) := hms.pick [some 1, some 0, some 2] _ rfl
   have hsb2 : ∀ x ∈ fl ([[b_p0]] ++ [blk a13_l11, M]), x ∈ fl [blk a13_l11, [b_p0], M] := pick_sub [some 1, some 0, some 2] _ rfl
   have hst0 := Stp.call (LS := [blk a13_l11, [b_p0], M]) (res := []) (par := [[b_p0]]) (R := [blk a13_l11, M]) he22 (fun b hb => hsb2 b (fl_left' (P := [[b_p0]]) b hb)) (FR.nil _) (NP.init _ _) (fun x hx => hsb2 x (fl_right' (P := [[b_p0]]) x hx))
   have hsn : ∀ x ∈ fl [blk a13_l11, [b_p0], M], x ∈ fl ([] ++ ([[b_p0]] ++ [blk a13_l11, M])) := pick_sub [some 1, some 0, some 2] _ rfl
   have hst := hst0.res hsn
   replace hs_p0_0 := hs_p0_0.step hst
   replace hj13_l11 := hj13_l11.step hst he22 (MS.outs (P := [[b_p0]]) hpk2 0 rfl)
   replace hms := hms.ev he22
   replace hev := hev.then he22 (fun b hb => .inl (by simpa using hb))
   replace hb_p0 := hp22_0
   clear hpk hsb hsb0 hpk2 hsb2 hst0 hsn hst
   refine x_u 2 [(43, Vp b_p0 0), (44, Vi (IntKind.i64.wrap (1 + x7.1)))] ?_
   obtain ⟨x23, hx, h⟩ := bind_some h
   have hpk : MS w22 ([[b_p0]] ++ [blk a13_l11, M]) := hms.pick [some 1, some 0, some 2] _ rfl
   have hsb0 : ∀ x ∈ fl ([[b_p0]] ++ [blk a13_l11, M]), x ∈ fl [blk a13_l11, [b_p0], M] := pick_sub [some 1, some 0, some 2] _ rfl
   have hsb : ∀ x ∈ fl ([[b_p0]] ++ [(fl [blk a13_l11, M])]), x ∈ fl [blk a13_l11, [b_p0], M] := fun x hx => hsb0 x (fl_unfold x hx)
   have hcall := gen_Maker_Next_w b_p0 a_p0_0 c_p0_0 p0_0 x21.2 (IntKind.i64.wrap (1 + x7.1)) _ w22 (fl [blk a13_l11, M]) (hpk.fold (P := [[b_p0]])) (hs_p0_0.sub hsb) hb_p0 hx
   refine x_call 13 #[] #[] [Vp b_p0 0, Vi (IntKind.i64.wrap (1 + x7.1))] _ rfl rfl rfl rfl hcall ?_
   rintro v w24 ⟨rfl, he24, hp24_0⟩
   clear hcall hx
   refine inl1 ?_
   have hpk2 : MS w22 ([[b_p0]] ++ [blk a13_l11, M]) := hms.pick [some 1, some 0, some 2] _ rfl
   have hsb2 : ∀ x ∈ fl ([[b_p0]] ++ [blk a13_l11, M]), x ∈ fl [blk a13_l11, [b_p0], M] := pick_sub [some 1, some 0, some 2] _ rfl
   have hst0 := Stp.call (LS := [blk a13_l11, [b_p0], M]) (res := []) (par := [[b_p0]]) (R := [blk a13_l11, M]) he24 (fun b hb => hsb2 b (fl_left' (P := [[b_p0]]) b hb)) (FR.nil _) (NP.init _ _) (fun x hx => hsb2 x (fl_right' (P := [[b_p0]]) x hx))
   have hsn : ∀ x ∈ fl [blk a13_l11, [b_p0], M], x ∈ fl ([] ++ ([[b_p0]] ++ [blk a13_l11, M])) := pick_sub [some 1, some 0, some 2] _ rfl
   have hst := hst0.res hsn
   replace hs_p0_0 := hs_p0_0.step hst
   replace hj13_l11 := hj13_l11.step hst he24 (MS.outs (P := [[b_p0]]) hpk2 0 rfl)
   replace hms := hms.ev he24
   replace hev := hev.then he24 (fun b hb => .inl (by simpa using hb))
   replace hb_p0 := hp24_0
   clear hpk hsb hsb0 hpk2 hsb2 hst0 hsn hst
   refine x_u 2 [(46, Vi round_s9_j15), (47, Vp b_p0 0)] (x_buildSlice (vs := [(0, Vi 80), (1, Vi 142), (2, Vi 199), (3, Vi 262)]) #[Vi 80, Vi 142, Vi 199, Vi 262] 3 rfl rfl rfl (by kernel_rfl) (fun b25 w25 hq25 hb25 he25 hz25 => ?_))
   refine inl1 ?_
   have hms0 := hms
   have hst := Stp.ext (ls := [blk a13_l11, [b_p0], M]) he25
   replace hb_p0 := he25.box hb_p0 nn
   replace hs_p0_0 := hs_p0_0.step hst
   replace hj13_l11 := hj13_l11.step hst he25 nn2
   replace hms := hms.ev he25
   replace hev := hev.ext he25
   have hs25 : SlR (eInt .i64) w25 (fl [blk a13_l11, [b_p0], M]) (Ad b25 0) 4 ([80, 142, 199, 262]) := ro_of_box hms0 hq25 hb25 rfl rfl (cells_at (cs := [Vi 80, Vi 142, Vi 199, Vi 262]) (CellsOf.cons (c := [Vi 80]) rfl (CellsOf.cons (c := [Vi 142]) rfl (CellsOf.cons (c := [Vi 199]) rfl (CellsOf.cons (c := [Vi 262]) rfl CellsOf.nil)))))
   clear hb25 hms0
   obtain ⟨x27, hx, h⟩ := bind_some h
   have hpk : MS w25 ([[b_p0]] ++ [blk a13_l11, M]) := hms.pick [some 1, some 0, some 2] _ rfl
   have hsb0 : ∀ x ∈ fl ([[b_p0]] ++ [blk a13_l11, M]), x ∈ fl [blk a13_l11, [b_p0], M] := pick_sub [some 1, some 0, some 2] _ rfl
   have hsb : ∀ x ∈ fl ([[b_p0]] ++ [(fl [blk a13_l11, M])]), x ∈ fl [blk a13_l11, [b_p0], M] := fun x hx => hsb0 x (fl_unfold x hx)
   have hcall := gen_Maker_Pick_w b_p0 a_p0_0 c_p0_0 p0_0 x23.2 (Ad b25 0) 4 ([80, 142, 199, 262]) _ w25 (fl [blk a13_l11, M]) (hpk.fold (P := [[b_p0]])) (hs_p0_0.sub hsb) hb_p0 (hs25.sub hsb) hx
   refine x_call 26 #[] #[] [Vp b_p0 0, .slice (Ad b25 0) ([80, 142, 199, 262]).length 4] _ rfl rfl rfl rfl hcall ?_
   rintro v w28 ⟨rfl, he28, hp28_0⟩
   clear hcall hx
   refine inl1 ?_
   have hpk2 : MS w25 ([[b_p0]] ++ [blk a13_l11, M]) := hms.pick [some 1, some 0, some 2] _ rfl
   have hsb2 : ∀ x ∈ fl ([[b_p0]] ++ [blk a13_l11, M]), x ∈ fl [blk a13_l11, [b_p0], M] := pick_sub [some 1, some 0, some 2] _ rfl
   have hst0 := Stp.call (LS := [blk a13_l11, [b_p0], M]) (res := []) (par := [[b_p0]]) (R := [blk a13_l11, M]) he28 (fun b hb => hsb2 b (fl_left' (P := [[b_p0]]) b hb)) (FR.nil _) (NP.init _ _) (fun x hx => hsb2 x (fl_right' (P := [[b_p0]]) x hx))
   have hsn : ∀ x ∈ fl [blk a13_l11, [b_p0], M], x ∈ fl ([] ++ ([[b_p0]] ++ [blk a13_l11, M])) := pick_sub [some 1, some 0, some 2] _ rfl
   have hst := hst0.res hsn
   replace hs_p0_0 := hs_p0_0.step hst
   replace hj13_l11 := hj13_l11.step hst he28 (MS.outs (P := [[b_p0]]) hpk2 0 rfl)
   replace hms := hms.ev he28
   replace hev := hev.then he28 (fun b hb => .inl (by simpa using hb))
   replace hb_p0 := hp28_0
   clear hpk hsb hsb0 hpk2 hsb2 hst0 hsn hst
   refine x_build (vs := [(0, Vi x21.1), (1, Vi x23.1), (2, Vi round_s9_j15), (3, Vi x27.1)]) (.agg #[Vi x21.1, Vi x23.1, Vi round_s9_j15, Vi x27.1]) rfl rfl rfl (fun _ _ => by kernel_rfl) ?_
   refine x_buildSlice (vs := [(0, .agg #[Vi x21.1, Vi x23.1, Vi round_s9_j15, Vi x27.1])]) #[Vi x21.1, Vi x23.1, Vi round_s9_j15, Vi x27.1] 76 rfl rfl rfl (by kernel_rfl) (fun b29 w29 hq29 hb29 he29 hz29 => ?_)
   refine inl1 ?_
   have hms0 := hms
   have hst := Stp.ext (ls := [blk a13_l11, [b_p0], M]) he29
   replace hb_p0 := he29.box hb_p0 nn
   replace hs_p0_0 := hs_p0_0.step hst
   replace hj13_l11 := hj13_l11.step hst he29 nn2
   replace hms := hms.ev he29
   replace hev := hev.ext he29
   have hs29 : SlR (eIt4) w29 (fl [blk a13_l11, [b_p0], M]) (Ad b29 0) 1 ([(x21.1, x23.1, round_s9_j15, x27.1)] : List (Int × Int × Int × Int)) := ro_of_box hms0 hq29 hb29 rfl rfl (cells_at (cs := [Vi x21.1, Vi x23.1, Vi round_s9_j15, Vi x27.1]) (CellsOf.cons (c := [Vi x21.1, Vi x23.1, Vi round_s9_j15, Vi x27.1]) ⟨[Vi x21.1], [Vi x23.1, Vi round_s9_j15, Vi x27.1], rfl, rfl, ⟨[Vi x23.1], [Vi round_s9_j15, Vi x27.1], rfl, rfl, ⟨[Vi round_s9_j15], [Vi x27.1], rfl, rfl, rfl⟩⟩⟩ CellsOf.nil))
   clear hb29 hms0
   have hg := guard_l h
   replace h := guard_r h
   obtain ⟨a31, c31, w31, hr31, he31, hn31, hm31, hw31⟩ := own_appendN tel36 36 hj13_l11 (mem_flat 0 rfl) hs29 hg
   refine x_builtin (vs := [Vl a13_l11 d13_l11 c13_l11, .slice (Ad b29 0) (([(x21.1, x23.1, round_s9_j15, x27.1)] : List (Int × Int × Int × Int))).length 1]) _ w31 rfl rfl rfl rfl (run_value _ _ _ _ hr31) (inl1 ?_)
   have hst : Stp (fl [blk a13_l11, [b_p0], M]) w29 (fl [blk a31, [b_p0], M]) w31 := Stp.upd 0 he31 rfl (fun b hb => (hn31 b hb).1)
   replace hb_p0 := he31.box hb_p0 (hms.apart 1 0 rfl rfl rfl _ mem1)
   replace hs_p0_0 := hs_p0_0.step hst
   replace hms : MS w31 [blk a31, [b_p0], M] := hms.upd 0 he31 rfl hn31
   have hfr2 : FR w.heap.size [blk a31] := hfr.upd 0 rfl hev.size (fun b hb => (hn31 b hb).1)
   replace hev := hev.then he31 (fun b hb => .inr (hfr.at 0 rfl b hb))
   replace hfr := hfr2
   clear hfr2
   replace hj13_l11 := hw31 (fl [blk a31, [b_p0], M]) hst.new
   clear hw31
   refine x_u 1 [(5, .slice a31 ((d13_l11 ++ ([(x21.1, x23.1, round_s9_j15, x27.1)] : List (Int × Int × Int × Int)))).length c31)] (x_end rfl (k_block (k_then (c_nm [(0, Vp b_p0 0), (5, .slice a31 ((d13_l11 ++ ([(x21.1, x23.1, round_s9_j15, x27.1)] : List (Int × Int × Int × Int)))).length c31), (6, .bool (x3.1 == 0)), (7, Vi (IntKind.i64.wrap (1 + x5.1))), (8, Vi (IntKind.i64.wrap (1 + x7.1))), (9, Vi round_s9_j15), (10, Vi i_s10_l11)] (fun J => ?_)))))
   refine c_plain (x_u 3 [(26, Vi i_s10_l11), (27, Vi (IntKind.i64.wrap (i_s10_l11 - 1))), (10, Vi (IntKind.i64.wrap (i_s10_l11 - 1)))] (x_end rfl ?_))
   obtain rfl := some_inj h
   exact k_then ⟨(m11, x27.2, (d13_l11 ++ ([(x21.1, x23.1, round_s9_j15, x27.1)] : List (Int × Int × Int × Int))), round_s9_j15, IntKind.i64.wrap (i_s10_l11 - 1), a31, c31), ⟨rfl, rfl, rfl, rfl, rfl, rfl, rfl, trivial⟩, ⟨hn11, hev, hms, hfr, hs_p0_0, hb_p0, hj13_l11⟩, Nat.lt_succ_self _⟩
 refine c_exit (k_then_exit ?_)
 obtain rfl := some_inj h
 have hy := some_inj hn11
 subst hy
 replace h := h11
 refine k_then_exit (k_block_in (k_then (c_nm [(5, Vl a13_l11 d13_l11 c13_l11)] (fun J => ?_))))
 refine c_sp (x_u 2 [(53, Vl a13_l11 d13_l11 c13_l11), (4, Vl a13_l11 d13_l11 c13_l11)] (x_ek (c_ret (r_ret (r_vals [Vl a13_l11 d13_l11 c13_l11] ⟨rfl, trivial⟩ ?_)))))
 obtain rfl := some_inj h
 have hmr := hms.pick [some 0, some 1, some 2] [blk a13_l11, [b_p0], M] rfl
 have hsu := pick_sub (ls := [blk a13_l11, [b_p0], M]) [some 0, some 1, some 2] [blk a13_l11, [b_p0], M] rfl
 have hfe := hfr.pick [some 0] [blk a13_l11] rfl
 exact ⟨a13_l11, c13_l11, rfl, hev, hb_p0, hmr, hfe, hj13_l11.sub hsu⟩
def gen_Maker_From (p0_0 : List Int) (p0_1 : Int) (p1 : Int) (p2 : Int) : Option (Int × Int) :=
((gen_Maker_Next p0_0 p0_1 (IntKind.i64.wrap ((IntKind.i64.wrap (p2 - p1)) + 1))).bind fun x3 =>
some (IntKind.i64.wrap (p1 + x3.1), x3.2))
theorem gen_Maker_From_w (b_p0 : Nat) (a_p0_0 : Option Addr) (c_p0_0 : Nat) (p0_0 : List Int) (p0_1 : Int) (p1 : Int) (p2 : Int) (r : Int × Int) (w : World) (M : List Nat) (hms : MS w [[b_p0], M]) (hs_p0_0 : SlR (eInt .i64) w (fl [[b_p0], M]) a_p0_0 c_p0_0 p0_0) (hb_p0 : w.heap[b_p0]? = some (.cells #[Vl a_p0_0 p0_0 c_p0_0, Vi p0_1] 90 (0, 0))) (h : gen_Maker_From p0_0 p0_1 p1 p2 = some r) : CallVC Tryz.prog 37 [Vp b_p0 0, Vi p1, Vi p2] w fun v w' => v = Vi r.1 ∧ Ev [b_p0] w w' ∧ w'.heap[b_p0]? = some (.cells #[Vl a_p0_0 p0_0 c_p0_0, Vi r.2] 90 (0, 0)) := by
 refine calls_vc hmx Tryz.func37 (by kernel_rfl) rfl (rs := [.tmp 6]) rfl (by kernel_rfl) (args := [Vp b_p0 0, Vi p1, Vi p2]) rfl ?_
 have hev : Ev [b_p0] w w := Ev.refl _ _
 refine c_sp (x_u 1 [(6, Vi 0)] (x_ek (c_sp (x_u 6 [(7, Vi p1), (8, Vp b_p0 0), (9, Vi p2), (10, Vi p1), (11, Vi (IntKind.i64.wrap (p2 - p1))), (12, Vi (IntKind.i64.wrap ((IntKind.i64.wrap (p2 - p1)) + 1)))] ?_))))
 obtain ⟨x3, hx, h⟩ := bind_some h
 have hpk : MS w ([[b_p0]] ++ [M]) := hms.pick [some 0, some 1] _ rfl
 have hsb0 : ∀ x ∈ fl ([[b_p0]] ++ [M]), x ∈ fl [[b_p0], M] := pick_sub [some 0, some 1] _ rfl
 have hsb : ∀ x ∈ fl ([[b_p0]] ++ [(fl [M])]), x ∈ fl [[b_p0], M] := fun x hx => hsb0 x (fl_unfold x hx)
 have hcall := gen_Maker_Next_w b_p0 a_p0_0 c_p0_0 p0_0 p0_1 (IntKind.i64.wrap ((IntKind.i64.wrap (p2 - p1)) + 1)) _ w (fl [M]) (hpk.fold (P := [[b_p0]])) (hs_p0_0.sub hsb) hb_p0 hx
 refine x_call 13 #[] #[] [Vp b_p0 0, Vi (IntKind.i64.wrap ((IntKind.i64.wrap (p2 - p1)) + 1))] _ rfl rfl rfl rfl hcall ?_
 rintro v w4 ⟨rfl, he4, hp4_0⟩
 clear hcall hx
 refine inl1 ?_
 replace hev := hev.then he4 (fun b hb => .inl (by simpa using hb))
 replace hb_p0 := hp4_0
 clear hpk hsb hsb0
 refine x_u 2 [(14, Vi (IntKind.i64.wrap (p1 + x3.1))), (6, Vi (IntKind.i64.wrap (p1 + x3.1)))] (x_ek (c_ret (r_ret (r_vals [Vi (IntKind.i64.wrap (p1 + x3.1))] ⟨rfl, trivial⟩ ?_))))
 obtain rfl := some_inj h
 exact ⟨rfl, hev, hb_p0⟩
def gen_Items_L4 (p0 : List (Int × Int × Int × Int)) (p1 : List (Int × Int × Int × Int)) (s : Int) : Option (Step Int (Unit ⊕ Unit)) :=
match s with
| i_s5_l4 =>
(if (decide (i_s5_l4 < ((p0).length : Int))) = true then
((idx p0 i_s5_l4).bind fun x6 =>
((idx p1 i_s5_l4).bind fun x8 =>
(if (!(x6.1 == x8.1 && (x6.2.1 == x8.2.1 && (x6.2.2.1 == x8.2.2.1 && (x6.2.2.2 == x8.2.2.2 && true))))) = true then
some (.done (.inl ()))
else
some (.next (IntKind.i64.wrap (i_s5_l4 + 1))))))
else
some (.done (.inr ())))
def gen_Items (p0 : List (Int × Int × Int × Int)) (p1 : List (Int × Int × Int × Int)) : Option Bool :=
(if (((p0).length : Int) != ((p1).length : Int)) = true then
some false
else
((loop (gen_Items_L4 p0 p1) 0).bind fun d => match d with
| (.inl _) => some false
| (.inr _) => some true))
theorem gen_Items_w (a_p0 : Option Addr) (c_p0 : Nat) (p0 : List (Int × Int × Int × Int)) (a_p1 : Option Addr) (c_p1 : Nat) (p1 : List (Int × Int × Int × Int)) (r : Bool) (w : World) (M : List Nat) (hms : MS w [M]) (hs_p0 : SlR (eIt4) w (fl [M]) a_p0 c_p0 p0) (hs_p1 : SlR (eIt4) w (fl [M]) a_p1 c_p1 p1) (h : gen_Items p0 p1 = some r) : CallVC Tryz.prog 17 [Vl a_p0 p0 c_p0, Vl a_p1 p1 c_p1] w fun v w' => v = .bool r ∧ Ev [] w w' := by
 refine calls_vc hmx Tryz.func17 (by kernel_rfl) rfl (rs := [.tmp 4]) rfl (by kernel_rfl) (args := [Vl a_p0 p0 c_p0, Vl a_p1 p1 c_p1]) rfl ?_
 have hev : Ev [] w w := Ev.refl _ _
 have hfr : FR w.heap.size [] := FR.nil _
 refine c_sp (x_u 1 [(4, .bool false)] (x_ek (c_seq (c_sp (x_u 1 [(6, Vl a_p0 p0 c_p0)] ?_)))))
 refine x_len (vs := [Vl a_p0 p0 c_p0]) (Vi ((p0).length : Int)) rfl rfl rfl (reads_len tsl36 _ _ _ _ _) (x_u 1 [(8, Vl a_p1 p1 c_p1)] (x_len (vs := [Vl a_p1 p1 c_p1]) (Vi ((p1).length : Int)) rfl rfl rfl (reads_len tsl36 _ _ _ _ _) (x_u 1 [(10, .bool (((p0).length : Int) != ((p1).length : Int)))] (x_ek (c_if (((p0).length : Int) != ((p1).length : Int)) rfl h (fun h => ?_) (fun h => ?_))))))
 · refine c_sp (x_u 1 [(4, .bool false)] (x_ek (c_ret (k_then_ret (r_ret (r_vals [.bool false] ⟨rfl, trivial⟩ ?_))))))
   obtain rfl := some_inj h
   exact ⟨rfl, hev⟩
 refine c_skip (k_then (c_seq (c_sp (x_u 1 [(5, Vi 0)] (x_ek ?_)))))
 refine c_block ?_
 obtain ⟨d4, hd4, h4⟩ := bind_some h
 obtain ⟨m4, hd4⟩ := loop_some hd4
 refine c_loop (loop_rule hmx (σ := Nat × Int) (fun s => match s with | (_, i_s5_l4) => [(0, Vl a_p0 p0 c_p0), (1, Vl a_p1 p1 c_p1), (5, Vi i_s5_l4)]) (fun s w' => match s with | (m, i_s5_l4) => loopN (gen_Items_L4 p0 p1) m i_s5_l4 = some d4 ∧ Ev [] w w' ∧ MS w' [M] ∧ FR w.heap.size [] ∧ SlR (eIt4) w' (fl [M]) a_p0 c_p0 p0 ∧ SlR (eIt4) w' (fl [M]) a_p1 c_p1 p1) (fun s => s.1) (m4, 0) ⟨rfl, rfl, rfl, trivial⟩ ⟨hd4, hev, hms, hfr, hs_p0, hs_p1⟩ ?_)
 rintro ⟨m4, i_s5_l4⟩ J wl4 ⟨hn4, hev, hms, hfr, hs_p0, hs_p1⟩
 rcases m4 with _ | m4
 · exact (loopN_zero hn4).elim
 obtain ⟨t4, h, hn4⟩ := bind_some hn4
 refine c_seq (c_sp (x_u 2 [(11, Vi i_s5_l4), (12, Vl a_p0 p0 c_p0)] (x_len (vs := [Vl a_p0 p0 c_p0]) (Vi ((p0).length : Int)) rfl rfl rfl (reads_len tsl36 _ _ _ _ _) (x_u 1 [(14, .bool (decide (i_s5_l4 < ((p0).length : Int))))] (x_ek ?_)))))
 refine c_nm [(0, Vl a_p0 p0 c_p0), (1, Vl a_p1 p1 c_p1), (5, Vi i_s5_l4), (14, .bool (decide (i_s5_l4 < ((p0).length : Int))))] (fun J => ?_)
 refine c_if (decide (i_s5_l4 < ((p0).length : Int))) rfl h (fun h => ?_) (fun h => ?_)
 · refine c_skip (k_then (c_seq (c_block (c_seq (c_drawn [] [(0, false), (1, false), (2, false), (3, false), (4, false), (5, false), (6, false), (7, false), (8, false)] _ (by kernel_rfl) rfl ?_)))))
   have hst := Stp.ext (ls := [M]) (Ev.drew wl4)
   replace hs_p0 := hs_p0.step hst
   replace hs_p1 := hs_p1.step hst
   replace hms := hms.ev (Ev.drew wl4)
   replace hev := hev.ext (Ev.drew wl4)
   refine x_u 2 [(17, Vl a_p0 p0 c_p0), (18, Vi i_s5_l4)] ?_
   obtain ⟨x6, hx6, h⟩ := bind_some h
   obtain ⟨ad6, cs6, hr6, hc6, hR⟩ := reads_index (Mo := []) tsl36 hs_p0 hx6
   obtain ⟨_, _, rfl, rfl, ⟨_, _, rfl, rfl, ⟨_, _, rfl, rfl, rfl⟩⟩⟩ := hR
   refine x_indexAddr (xv := Vl a_p0 p0 c_p0) (yv := Vi i_s5_l4) (.pointer (some ad6)) rfl rfl rfl rfl hr6 (x_load (xv := .pointer (some ad6)) (.agg #[Vi x6.1, Vi x6.2.1, Vi x6.2.2.1, Vi x6.2.2.2]) rfl rfl rfl (reads_agg tagg76 hc6 (fun _ h => by cases h)) ?_)
   refine x_u 2 [(21, Vl a_p1 p1 c_p1), (22, Vi i_s5_l4)] ?_
   obtain ⟨x8, hx8, h⟩ := bind_some h
   obtain ⟨ad8, cs8, hr8, hc8, hR⟩ := reads_index (Mo := []) tsl36 hs_p1 hx8
   obtain ⟨_, _, rfl, rfl, ⟨_, _, rfl, rfl, ⟨_, _, rfl, rfl, rfl⟩⟩⟩ := hR
   refine x_indexAddr (xv := Vl a_p1 p1 c_p1) (yv := Vi i_s5_l4) (.pointer (some ad8)) rfl rfl rfl rfl hr8 (x_load (xv := .pointer (some ad8)) (.agg #[Vi x8.1, Vi x8.2.1, Vi x8.2.2.1, Vi x8.2.2.2]) rfl rfl rfl (reads_agg tagg76 hc8 (fun _ h => by cases h)) ?_)
   refine x_binop (.bool (!(x6.1 == x8.1 && (x6.2.1 == x8.2.1 && (x6.2.2.1 == x8.2.2.1 && (x6.2.2.2 == x8.2.2.2 && true)))))) (.agg #[Vi x6.1, Vi x6.2.1, Vi x6.2.2.1, Vi x6.2.2.2]) (.agg #[Vi x8.1, Vi x8.2.1, Vi x8.2.2.1, Vi x8.2.2.2]) rfl rfl rfl rfl (bin_aggne Tryz.underlying76 (by kernel_rfl) (by kernel_rfl) (fun _ => (eqF_cell (by kernel_rfl) (fun w => (tcell3 w).1) rfl rfl (fun w => eq_int tint3 _ _ w) (eqF_cell (by kernel_rfl) (fun w => (tcell3 w).1) rfl rfl (fun w => eq_int tint3 _ _ w) (eqF_cell (by kernel_rfl) (fun w => (tcell3 w).1) rfl rfl (fun w => eq_int tint3 _ _ w) (eqF_cell (by kernel_rfl) (fun w => (tcell3 w).1) rfl rfl (fun w => eq_int tint3 _ _ w) eqF_nil)))))) ?_
   refine x_ek (c_if (!(x6.1 == x8.1 && (x6.2.1 == x8.2.1 && (x6.2.2.1 == x8.2.2.1 && (x6.2.2.2 == x8.2.2.2 && true))))) rfl h (fun h => ?_) (fun h => ?_))
   · refine c_sp (x_u 1 [(4, .bool false)] (x_ek (c_ret (k_block_ret (k_then_ret ?_)))))
     obtain rfl := some_inj h
     have hy := some_inj hn4
     subst hy
     replace h := h4
     refine k_then_ret (k_block_ret (k_then_ret (r_ret (r_vals [.bool false] ⟨rfl, trivial⟩ ?_))))
     obtain rfl := some_inj h
     exact ⟨rfl, hev⟩
   refine c_skip (k_block (k_then (c_plain (x_u 3 [(15, Vi i_s5_l4), (16, Vi (IntKind.i64.wrap (i_s5_l4 + 1))), (5, Vi (IntKind.i64.wrap (i_s5_l4 + 1)))] (x_end rfl ?_)))))
   obtain rfl := some_inj h
   exact k_then ⟨(m4, IntKind.i64.wrap (i_s5_l4 + 1)), ⟨rfl, rfl, rfl, trivial⟩, ⟨hn4, hev, hms, hfr, hs_p0, hs_p1⟩, Nat.lt_succ_self _⟩
 refine c_exit (k_then_exit ?_)
 obtain rfl := some_inj h
 have hy := some_inj hn4
 subst hy
 replace h := h4
 refine k_then_exit (k_block_in (k_then (c_norm [] trivial (fun J => ?_))))
 refine c_sp (x_u 1 [(4, .bool true)] (x_ek (c_ret (r_ret (r_vals [.bool true] ⟨rfl, trivial⟩ ?_)))))
 obtain rfl := some_inj h
 exact ⟨rfl, hev⟩
end Go.Proofs.YtlejnkhaphlooaaGreat
