/- Walks, printed by program: each function returns what the partial function of the same name returns. Conditions: those of each theorem. -/
import Derived.Test.YteimkmjnjnaifaaGT
import Derived.Test.YteimkmjnjnaifaaGr02
set_option linter.unusedVariables false
set_option linter.unusedSimpArgs false
set_option maxRecDepth 4000
namespace Go.Proofs.Yteimkmjnjnaifaa
open Go Go.V Go.Proofs
def gen_New (p0 : List Int) : Option ((List Int) × Int) :=
some (p0, 0)

theorem gen_New_w (a_p0 : Option Addr) (c_p0 : Nat) (p0 : List Int) (r : ((List Int) × Int)) (w : World) (M : List Nat) (hms : MS w [M]) (hs_p0 : SlR (eInt .i64) w (fl [M]) a_p0 c_p0 p0) (h : gen_New p0 = some r) : CallVC Try.prog 9 [.slice a_p0 (p0).length c_p0] w fun v w' => ∃ (b0' : Nat), ∃ (a1' : Option Addr), ∃ (c1' : Nat), v = .pointer (some ⟨b0', 0, none⟩) ∧ Ev [] w w' ∧ MS w' [[b0'], M] ∧ FR w.heap.size [[b0']] ∧ w'.heap[b0']? = some (.cells #[.slice a1' (r.1).length c1', Vi r.2] 43 (0, 0)) ∧ SlR (eInt .i64) w' (fl [[b0'], M]) a1' c1' r.1 := by
 refine calls_vc hmx Try.func9 (by kernel_rfl) rfl (rs := [.tmp 2]) rfl (by kernel_rfl) (args := [.slice a_p0 (p0).length c_p0]) rfl ?_
 have hev : Ev [] w w := Ev.refl _ _
 have hfr : FR w.heap.size [] := FR.nil _
 refine c_sp ?_
 refine x_pure 1 [(2, .pointer none)] _ _ _ (by kernel_rfl) ?_
 refine x_ek ?_
 refine c_sp ?_
 refine x_pure 1 [(3, .slice a_p0 (p0).length c_p0)] _ _ _ (by kernel_rfl) ?_
 refine x_build (vs := [(0, .slice a_p0 (p0).length c_p0)]) (.agg #[.slice a_p0 (p0).length c_p0, Vi 0]) rfl rfl rfl (fun _ _ => by kernel_rfl) ?_
 refine x_box (xv := .agg #[.slice a_p0 (p0).length c_p0, Vi 0]) rfl rfl rfl (fun b2 w2 hq2 hb2 he2 hz2 => ?_)
 replace hb2 : w2.heap[b2]? = some (.cells #[.slice a_p0 (p0).length c_p0, Vi 0] 43 (0, 0)) := hb2
 refine inl1 ?_
 have hst := Stp.box (ls := [M]) he2 hq2
 replace hs_p0 := hs_p0.step hst
 replace hms := hms.box he2 hq2 hb2
 replace hfr := hfr.box hev.size hq2
 replace hev := hev.ext he2
 refine x_pure 1 [(2, Vp b2 0)] _ _ _ (by kernel_rfl) ?_
 refine x_ek ?_
 refine c_ret ?_
 refine r_ret (r_vals [Vp b2 0] ⟨rfl, trivial⟩ ?_)
 have hx := some_inj h
 subst hx
 have hmr : MS w2 [[b2], M] := hms.pick [some 0, some 1] _ rfl
 have hsu : ∀ x ∈ fl [[b2], M], x ∈ fl [[b2], M] := pick_sub [some 0, some 1] _ rfl
 have hfe : FR w.heap.size [[b2]] := hfr.pick [some 0] _ rfl
 exact ⟨b2, a_p0, c_p0, rfl, hev, hmr, hfe, hb2, hs_p0.sub hsu⟩
def gen_Maker_Next_J3 (p0_1 : Int) (p1 : Int) (x_s5_j3 : Int) : Option (Int × Int) :=
(if p1 ≠ 0 then
(if (decide ((Int.tmod x_s5_j3 p1) < 0)) = true then
some (IntKind.i64.wrap ((Int.tmod x_s5_j3 p1) + p1), IntKind.i64.wrap (p0_1 + 1))
else
some (Int.tmod x_s5_j3 p1, IntKind.i64.wrap (p0_1 + 1)))
else none)

def gen_Maker_Next (p0_0 : List Int) (p0_1 : Int) (p1 : Int) : Option (Int × Int) :=
(if (decide (((p0_0).length : Int) > 0)) = true then
(if ((p0_0).length : Int) ≠ 0 then
((idx p0_0 (Int.tmod p0_1 ((p0_0).length : Int))).bind fun x4 =>
(if ((p0_0).length : Int) ≠ 0 then
gen_Maker_Next_J3 p0_1 p1 (IntKind.i64.wrap (x4 + (IntKind.i64.wrap ((IntKind.i64.wrap (Int.tdiv p0_1 ((p0_0).length : Int))) * 7919))))
else none))
else none)
else
gen_Maker_Next_J3 p0_1 p1 0)

theorem gen_Maker_Next_w (b_p0 : Nat) (a_p0_0 : Option Addr) (c_p0_0 : Nat) (p0_0 : List Int) (p0_1 : Int) (p1 : Int) (r : Int × Int) (w : World) (M : List Nat) (hms : MS w [[b_p0], M]) (hs_p0_0 : SlR (eInt .i64) w (fl [[b_p0], M]) a_p0_0 c_p0_0 p0_0) (hb_p0 : w.heap[b_p0]? = some (.cells #[.slice a_p0_0 (p0_0).length c_p0_0, Vi p0_1] 43 (0, 0))) (h : gen_Maker_Next p0_0 p0_1 p1 = some r) : CallVC Try.prog 15 [Vp b_p0 0, Vi p1] w fun v w' => v = Vi r.1 ∧ Ev [b_p0] w w' ∧ w'.heap[b_p0]? = some (.cells #[.slice a_p0_0 (p0_0).length c_p0_0, Vi r.2] 43 (0, 0)) := by
 refine calls_vc hmx Try.func15 (by kernel_rfl) rfl (rs := [.tmp 4]) rfl (by kernel_rfl) (args := [Vp b_p0 0, Vi p1]) rfl ?_
 have hev : Ev [b_p0] w w := Ev.refl _ _
 have hfr : FR w.heap.size [] := FR.nil _
 refine c_sp ?_
 refine x_pure 1 [(4, Vi 0)] _ _ _ (by kernel_rfl) ?_
 refine x_ek ?_
 refine c_sp ?_
 refine x_pure 1 [(5, Vi 0)] _ _ _ (by kernel_rfl) ?_
 refine x_ek ?_
 refine c_join (σ := Int) (fun s => match s with | x_s5_j3 => [(0, Vp b_p0 0), (1, Vi p1), (5, Vi x_s5_j3)]) (fun s w' => match s with | x_s5_j3 => gen_Maker_Next_J3 p0_1 p1 x_s5_j3 = some r ∧ Ev [b_p0] w w' ∧ MS w' [[b_p0], M] ∧ FR w.heap.size [] ∧ SlR (eInt .i64) w' (fl [[b_p0], M]) a_p0_0 c_p0_0 p0_0 ∧ w'.heap[b_p0]? = some (.cells #[.slice a_p0_0 (p0_0).length c_p0_0, Vi p0_1] 43 (0, 0))) ?_ ?_
 · refine c_sp ?_
   refine x_pure 2 [(6, Vp b_p0 0), (7, Vp b_p0 0)] _ _ _ (by kernel_rfl) ?_
   refine x_fieldAddr (xv := Vp b_p0 0) (Vp b_p0 0) rfl rfl rfl (reads_field tfld43_0 _ _) ?_
   refine x_load (xv := Vp b_p0 0) (.slice a_p0_0 (p0_0).length c_p0_0) rfl rfl rfl (reads_box tcell22 hb_p0 nn 0 _ rfl) ?_
   refine x_len (vs := [.slice a_p0_0 (p0_0).length c_p0_0]) (Vi ((p0_0).length : Int)) rfl rfl rfl (reads_len tsl22 _ _ _ _ _) ?_
   refine x_pure 1 [(11, .bool (decide (((p0_0).length : Int) > 0)))] _ _ _ (by kernel_rfl) ?_
   refine x_ek ?_
   refine c_cond (decide (((p0_0).length : Int) > 0)) rfl (fun hb => ?_) (fun hb => ?_)
   · replace h := ite_t hb h
     refine c_drawn [] [(0, false), (1, false), (2, false), (3, false), (4, false), (5, false), (6, false), (7, false), (8, false), (9, false), (10, false), (11, false), (12, false), (13, false), (14, false), (15, false), (16, false), (17, false), (18, false), (19, false), (20, false), (21, false), (22, false), (23, false), (24, false), (25, false), (26, false), (27, false), (28, false)] _ (by kernel_rfl) rfl ?_
     have hst := Stp.ext (ls := [[b_p0], M]) (Ev.drew w)
     replace hs_p0_0 := hs_p0_0.step hst
     replace hb_p0 := (Ev.drew w).box hb_p0 nn
     replace hms := hms.ev (Ev.drew w)
     replace hev := hev.ext (Ev.drew w)
     refine x_pure 2 [(12, Vp b_p0 0), (13, Vp b_p0 0)] _ _ _ (by kernel_rfl) ?_
     refine x_fieldAddr (xv := Vp b_p0 0) (Vp b_p0 0) rfl rfl rfl (reads_field tfld43_0 _ _) ?_
     refine x_load (xv := Vp b_p0 0) (.slice a_p0_0 (p0_0).length c_p0_0) rfl rfl rfl (reads_box tcell22 hb_p0 nn 0 _ rfl) ?_
     refine x_pure 2 [(16, Vp b_p0 0), (17, Vp b_p0 0)] _ _ _ (by kernel_rfl) ?_
     refine x_fieldAddr (xv := Vp b_p0 0) (Vp b_p0 1) rfl rfl rfl (reads_field tfld43_1 _ _) ?_
     refine x_load (xv := Vp b_p0 1) (Vi p0_1) rfl rfl rfl (reads_box tcell3 hb_p0 nn 1 _ rfl) ?_
     refine x_pure 2 [(20, Vp b_p0 0), (21, Vp b_p0 0)] _ _ _ (by kernel_rfl) ?_
     refine x_fieldAddr (xv := Vp b_p0 0) (Vp b_p0 0) rfl rfl rfl (reads_field tfld43_0 _ _) ?_
     refine x_load (xv := Vp b_p0 0) (.slice a_p0_0 (p0_0).length c_p0_0) rfl rfl rfl (reads_box tcell22 hb_p0 nn 0 _ rfl) ?_
     refine x_len (vs := [.slice a_p0_0 (p0_0).length c_p0_0]) (Vi ((p0_0).length : Int)) rfl rfl rfl (reads_len tsl22 _ _ _ _ _) ?_
     refine x_binop (Vi (Int.tmod p0_1 ((p0_0).length : Int))) (Vi p0_1) (Vi ((p0_0).length : Int)) rfl rfl rfl rfl (vb_rem (guard_l h)) ?_
     replace h := guard_r h
     obtain ⟨x4, hx4, h⟩ := bind_some h
     obtain ⟨ad4, cs4, hr4, hc4, hR⟩ := reads_index (Mo := []) tsl22 hs_p0_0 hx4
     obtain rfl := hR
     refine x_indexAddr (xv := .slice a_p0_0 (p0_0).length c_p0_0) (yv := Vi (Int.tmod p0_1 ((p0_0).length : Int))) (.pointer (some ad4)) rfl rfl rfl rfl hr4 ?_
     refine x_load (xv := .pointer (some ad4)) (Vi x4) rfl rfl rfl (reads_cell0 tcell3 hc4 (fun _ h => by cases h)) ?_
     refine x_pure 2 [(28, Vp b_p0 0), (29, Vp b_p0 0)] _ _ _ (by kernel_rfl) ?_
     refine x_fieldAddr (xv := Vp b_p0 0) (Vp b_p0 1) rfl rfl rfl (reads_field tfld43_1 _ _) ?_
     refine x_load (xv := Vp b_p0 1) (Vi p0_1) rfl rfl rfl (reads_box tcell3 hb_p0 nn 1 _ rfl) ?_
     refine x_pure 2 [(32, Vp b_p0 0), (33, Vp b_p0 0)] _ _ _ (by kernel_rfl) ?_
     refine x_fieldAddr (xv := Vp b_p0 0) (Vp b_p0 0) rfl rfl rfl (reads_field tfld43_0 _ _) ?_
     refine x_load (xv := Vp b_p0 0) (.slice a_p0_0 (p0_0).length c_p0_0) rfl rfl rfl (reads_box tcell22 hb_p0 nn 0 _ rfl) ?_
     refine x_len (vs := [.slice a_p0_0 (p0_0).length c_p0_0]) (Vi ((p0_0).length : Int)) rfl rfl rfl (reads_len tsl22 _ _ _ _ _) ?_
     refine x_binop (Vi (IntKind.i64.wrap (Int.tdiv p0_1 ((p0_0).length : Int)))) (Vi p0_1) (Vi ((p0_0).length : Int)) rfl rfl rfl rfl (vb_quo (guard_l h)) ?_
     replace h := guard_r h
     refine x_pure 3 [(38, Vi (IntKind.i64.wrap ((IntKind.i64.wrap (Int.tdiv p0_1 ((p0_0).length : Int))) * 7919))), (39, Vi (IntKind.i64.wrap (x4 + (IntKind.i64.wrap ((IntKind.i64.wrap (Int.tdiv p0_1 ((p0_0).length : Int))) * 7919))))), (5, Vi (IntKind.i64.wrap (x4 + (IntKind.i64.wrap ((IntKind.i64.wrap (Int.tdiv p0_1 ((p0_0).length : Int))) * 7919)))))] _ _ _ (by kernel_rfl) ?_
     refine x_end rfl ?_
     exact k_then ⟨IntKind.i64.wrap (x4 + (IntKind.i64.wrap ((IntKind.i64.wrap (Int.tdiv p0_1 ((p0_0).length : Int))) * 7919))), ⟨rfl, rfl, rfl, trivial⟩, h, hev, hms, hfr, hs_p0_0, hb_p0⟩
   replace h := ite_f hb h
   refine c_skip ?_
   exact k_then ⟨0, ⟨rfl, rfl, rfl, trivial⟩, h, hev, hms, hfr, hs_p0_0, hb_p0⟩
 rintro x_s5_j3 J wj3 ⟨h, hev, hms, hfr, hs_p0_0, hb_p0⟩
 refine c_sp ?_
 refine x_pure 2 [(40, Vp b_p0 0), (41, Vp b_p0 0)] _ _ _ (by kernel_rfl) ?_
 refine x_fieldAddr (xv := Vp b_p0 0) (Vp b_p0 1) rfl rfl rfl (reads_field tfld43_1 _ _) ?_
 refine x_load (xv := Vp b_p0 1) (Vi p0_1) rfl rfl rfl (reads_box tcell3 hb_p0 nn 1 _ rfl) ?_
 refine x_pure 2 [(44, Vi (IntKind.i64.wrap (p0_1 + 1))), (45, Vp b_p0 0)] _ _ _ (by kernel_rfl) ?_
 refine x_fieldAddr (xv := Vp b_p0 0) (Vp b_p0 1) rfl rfl rfl (reads_field tfld43_1 _ _) ?_
 obtain ⟨w6, hr6, hb6, he6⟩ := store_box 1 (Vi (IntKind.i64.wrap (p0_1 + 1))) #[.slice a_p0_0 (p0_0).length c_p0_0, Vi (IntKind.i64.wrap (p0_1 + 1))] tcell3 hb_p0 rfl rfl rfl
 refine x_store w6 (xv := Vp b_p0 1) (yv := Vi (IntKind.i64.wrap (p0_1 + 1))) rfl rfl rfl rfl hr6 ?_
 refine inl1 ?_
 have hst := Stp.ev' (ls := [[b_p0], M]) he6 (mem_flat 0 rfl)
 replace hs_p0_0 := hs_p0_0.step hst
 replace hms := hms.ev he6
 replace hev := hev.then he6 (fun b hb => .inl (by simpa using hb))
 replace hb_p0 := hb6
 refine x_ek ?_
 refine c_norm [(1, Vi p1), (5, Vi x_s5_j3)] ⟨rfl, rfl, trivial⟩ (fun J => ?_)
 refine c_sp ?_
 refine x_pure 2 [(47, Vi x_s5_j3), (48, Vi p1)] _ _ _ (by kernel_rfl) ?_
 refine x_binop (Vi (Int.tmod x_s5_j3 p1)) (Vi x_s5_j3) (Vi p1) rfl rfl rfl rfl (vb_rem (guard_l h)) ?_
 replace h := guard_r h
 refine x_pure 1 [(5, Vi (Int.tmod x_s5_j3 p1))] _ _ _ (by kernel_rfl) ?_
 refine x_ek ?_
 refine c_seq ?_
 refine c_sp ?_
 refine x_pure 2 [(50, Vi (Int.tmod x_s5_j3 p1)), (51, .bool (decide ((Int.tmod x_s5_j3 p1) < 0)))] _ _ _ (by kernel_rfl) ?_
 refine x_ek ?_
 refine c_cond (decide ((Int.tmod x_s5_j3 p1) < 0)) rfl (fun hb => ?_) (fun hb => ?_)
 · replace h := ite_t hb h
   refine c_plain ?_
   refine x_pure 4 [(52, Vi (Int.tmod x_s5_j3 p1)), (53, Vi p1), (54, Vi (IntKind.i64.wrap ((Int.tmod x_s5_j3 p1) + p1))), (5, Vi (IntKind.i64.wrap ((Int.tmod x_s5_j3 p1) + p1)))] _ _ _ (by kernel_rfl) ?_
   refine x_ek ?_
   refine c_sp ?_
   refine x_pure 2 [(55, Vi (IntKind.i64.wrap ((Int.tmod x_s5_j3 p1) + p1))), (4, Vi (IntKind.i64.wrap ((Int.tmod x_s5_j3 p1) + p1)))] _ _ _ (by kernel_rfl) ?_
   refine x_ek ?_
   refine c_ret ?_
   refine r_ret (r_vals [Vi (IntKind.i64.wrap ((Int.tmod x_s5_j3 p1) + p1))] ⟨rfl, trivial⟩ ?_)
   have hx := some_inj h
   subst hx
   have hmr : MS w6 [[b_p0], M] := hms.pick [some 0, some 1] _ rfl
   have hsu : ∀ x ∈ fl [[b_p0], M], x ∈ fl [[b_p0], M] := pick_sub [some 0, some 1] _ rfl
   exact ⟨rfl, hev, hb_p0⟩
 replace h := ite_f hb h
 refine c_skip ?_
 refine k_then ?_
 refine c_sp ?_
 refine x_pure 2 [(55, Vi (Int.tmod x_s5_j3 p1)), (4, Vi (Int.tmod x_s5_j3 p1))] _ _ _ (by kernel_rfl) ?_
 refine x_ek ?_
 refine c_ret ?_
 refine r_ret (r_vals [Vi (Int.tmod x_s5_j3 p1)] ⟨rfl, trivial⟩ ?_)
 have hx := some_inj h
 subst hx
 have hmr : MS w6 [[b_p0], M] := hms.pick [some 0, some 1] _ rfl
 have hsu : ∀ x ∈ fl [[b_p0], M], x ∈ fl [[b_p0], M] := pick_sub [some 0, some 1] _ rfl
 exact ⟨rfl, hev, hb_p0⟩
def gen_Maker_Digits_L5 (p0_0 : List Int) (p1 : Int) (s : Int × (List Int) × Int) : Option (Step (Int × (List Int) × Int) (Int × (List Int))) :=
match s with
| (e2_l5_1, d4_l5, i_s6_l5) =>
(if (decide (i_s6_l5 < p1)) = true then
((gen_Maker_Next p0_0 e2_l5_1 10).bind fun x7 =>
((idx d4_l5 i_s6_l5).bind fun x9 =>
some (.next (x7.2, (d4_l5.set (Int.toNat i_s6_l5) (IntKind.u8.wrap (IntKind.i64.wrap (48 + x7.1)))), IntKind.i64.wrap (i_s6_l5 + 1)))))
else
some (.done (e2_l5_1, d4_l5)))

def gen_Maker_Digits (p0_0 : List Int) (p0_1 : Int) (p1 : Int) : Option ((List UInt8) × Int) :=
(if (0 : Int) ≤ p1 ∧ (p1 : Int) ≤ 4294967296 then
((loop (gen_Maker_Digits_L5 p0_0 p1) (p0_1, (List.replicate (Int.toNat p1) 0 : List Int), 0)).bind fun d => match d with
| (e2_x5_1, d4_x5) => some ((ofB d4_x5), e2_x5_1))
else none)

theorem gen_Maker_Digits_w (b_p0 : Nat) (a_p0_0 : Option Addr) (c_p0_0 : Nat) (p0_0 : List Int) (p0_1 : Int) (p1 : Int) (r : (List UInt8) × Int) (w : World) (M : List Nat) (hms : MS w [[b_p0], M]) (hs_p0_0 : SlR (eInt .i64) w (fl [[b_p0], M]) a_p0_0 c_p0_0 p0_0) (hb_p0 : w.heap[b_p0]? = some (.cells #[.slice a_p0_0 (p0_0).length c_p0_0, Vi p0_1] 43 (0, 0))) (h : gen_Maker_Digits p0_0 p0_1 p1 = some r) : CallVC Try.prog 14 [Vp b_p0 0, Vi p1] w fun v w' => v = Vs r.1 ∧ Ev [b_p0] w w' ∧ w'.heap[b_p0]? = some (.cells #[.slice a_p0_0 (p0_0).length c_p0_0, Vi r.2] 43 (0, 0)) := by
 refine calls_vc hmx Try.func14 (by kernel_rfl) rfl (rs := [.tmp 4]) rfl (by kernel_rfl) (args := [Vp b_p0 0, Vi p1]) rfl ?_
 have hev : Ev [b_p0] w w := Ev.refl _ _
 have hfr : FR w.heap.size [] := FR.nil _
 refine c_sp ?_
 refine x_pure 1 [(4, Vs ([] : List UInt8))] _ _ _ (by kernel_rfl) ?_
 refine x_ek ?_
 refine c_sp ?_
 refine x_pure 1 [(7, Vi p1)] _ _ _ (by kernel_rfl) ?_
 have hg := guard_l h
 replace h := guard_r h
 obtain ⟨a3, c3, w3, hr3, he3, hn3, hw3⟩ := own_make (e := (eInt .u8)) tel26 w p1 hg.1 hg.2 0 (fun _ _ => rfl)
 refine x_makeSlice _ w3 (xv := Vi p1) (yv := Vi p1) rfl rfl rfl rfl hr3 ?_
 refine inl1 ?_
 have hst := Stp.push (ls := [[b_p0], M]) (l := blk a3) he3 (fun _ h => by cases h) (fun b hb => (hn3 b hb).1)
 replace hs_p0_0 := hs_p0_0.step hst
 replace hb_p0 := he3.box hb_p0 nn
 replace hms := hms.push he3 hn3
 replace hfr := hfr.push (fun b hb => Nat.le_trans hev.size (hn3 b hb).1)
 replace hev := hev.ext he3
 have ho3 := hw3 (fl [blk a3, [b_p0], M])
 clear hw3
 refine x_pure 1 [(5, .slice a3 ((List.replicate (Int.toNat p1) 0 : List Int)).length c3)] _ _ _ (by kernel_rfl) ?_
 refine x_ek ?_
 refine c_seq ?_
 refine c_sp ?_
 refine x_pure 1 [(6, Vi 0)] _ _ _ (by kernel_rfl) ?_
 refine x_ek ?_
 refine c_block ?_
 obtain ⟨d5, hd5, h5⟩ := bind_some h
 obtain ⟨m5, hd5⟩ := loop_some hd5
 refine c_loop (loop_rule hmx (σ := Nat × Int × (List Int) × Int × Option Addr) (fun s => match s with | (_, e2_l5_1, d4_l5, i_s6_l5, a4_l5) => [(0, Vp b_p0 0), (1, Vi p1), (5, .slice a4_l5 (d4_l5).length c3), (6, Vi i_s6_l5)]) (fun s w' => match s with | (m, e2_l5_1, d4_l5, i_s6_l5, a4_l5) => loopN (gen_Maker_Digits_L5 p0_0 p1) m (e2_l5_1, d4_l5, i_s6_l5) = some d5 ∧ Ev [b_p0] w w' ∧ MS w' [blk a4_l5, [b_p0], M] ∧ FR w.heap.size [blk a4_l5] ∧ SlR (eInt .i64) w' (fl [blk a4_l5, [b_p0], M]) a_p0_0 c_p0_0 p0_0 ∧ w'.heap[b_p0]? = some (.cells #[.slice a_p0_0 (p0_0).length c_p0_0, Vi e2_l5_1] 43 (0, 0)) ∧ OwnS (eInt .u8) 5 w' (fl [blk a4_l5, [b_p0], M]) a4_l5 c3 d4_l5) (fun s => s.1) (m5, p0_1, (List.replicate (Int.toNat p1) 0 : List Int), 0, a3) ⟨rfl, rfl, rfl, rfl, trivial⟩ ⟨hd5, hev, hms, hfr, hs_p0_0, hb_p0, ho3⟩ ?_)
 rintro ⟨m5, e2_l5_1, d4_l5, i_s6_l5, a4_l5⟩ J wl5 ⟨hn5, hev, hms, hfr, hs_p0_0, hb_p0, ho3⟩
 rcases m5 with _ | m5
 · exact (loopN_zero hn5).elim
 obtain ⟨t5, h, hn5⟩ := bind_some hn5
 refine c_seq ?_
 refine c_sp ?_
 refine x_pure 3 [(9, Vi i_s6_l5), (10, Vi p1), (11, .bool (decide (i_s6_l5 < p1)))] _ _ _ (by kernel_rfl) ?_
 refine x_ek ?_
 refine c_norm [(0, Vp b_p0 0), (1, Vi p1), (5, .slice a4_l5 (d4_l5).length c3), (6, Vi i_s6_l5), (11, .bool (decide (i_s6_l5 < p1)))] ⟨rfl, rfl, rfl, rfl, rfl, trivial⟩ (fun J => ?_)
 refine c_cond (decide (i_s6_l5 < p1)) rfl (fun hb => ?_) (fun hb => ?_)
 · replace h := ite_t hb h
   refine c_skip ?_
   refine k_then ?_
   refine c_seq ?_
   refine c_block ?_
   refine c_plain ?_
   refine x_pure 3 [(14, .slice a4_l5 (d4_l5).length c3), (15, Vi i_s6_l5), (16, Vp b_p0 0)] _ _ _ (by kernel_rfl) ?_
   obtain ⟨x7, hx, h⟩ := bind_some h
   have hpk : MS wl5 ([[b_p0]] ++ [blk a4_l5, M]) := hms.pick [some 1, some 0, some 2] _ rfl
   have hsb0 : ∀ x ∈ fl ([[b_p0]] ++ [blk a4_l5, M]), x ∈ fl [blk a4_l5, [b_p0], M] := pick_sub [some 1, some 0, some 2] _ rfl
   have hsb : ∀ x ∈ fl ([[b_p0]] ++ [(fl [blk a4_l5, M])]), x ∈ fl [blk a4_l5, [b_p0], M] := fun x hx => hsb0 x (fl_unfold x hx)
   have hcall := gen_Maker_Next_w b_p0 a_p0_0 c_p0_0 p0_0 e2_l5_1 10 _ wl5 (fl [blk a4_l5, M]) (hpk.fold (P := [[b_p0]])) (hs_p0_0.sub hsb) hb_p0 hx
   refine x_call 15 #[] #[] [Vp b_p0 0, Vi 10] _ rfl rfl rfl rfl hcall ?_
   rintro v w8 ⟨rfl, he8, hp8_0⟩
   clear hcall hx
   refine inl1 ?_
   have hpk2 : MS wl5 ([[b_p0]] ++ [blk a4_l5, M]) := hms.pick [some 1, some 0, some 2] _ rfl
   have hsb2 : ∀ x ∈ fl ([[b_p0]] ++ [blk a4_l5, M]), x ∈ fl [blk a4_l5, [b_p0], M] := pick_sub [some 1, some 0, some 2] _ rfl
   have hst0 := Stp.call (LS := [blk a4_l5, [b_p0], M]) (res := []) (par := [[b_p0]]) (R := [blk a4_l5, M]) he8 (fun b hb => hsb2 b (fl_left' (P := [[b_p0]]) b hb)) (FR.nil _) (NP.init _ _) (fun x hx => hsb2 x (fl_right' (P := [[b_p0]]) x hx))
   have hsn : ∀ x ∈ fl [blk a4_l5, [b_p0], M], x ∈ fl ([] ++ ([[b_p0]] ++ [blk a4_l5, M])) := pick_sub [some 1, some 0, some 2] _ rfl
   have hst := hst0.res hsn
   replace hs_p0_0 := hs_p0_0.step hst
   replace ho3 := ho3.step hst he8 (MS.outs (P := [[b_p0]]) hpk2 0 rfl)
   replace hms := hms.ev he8
   replace hev := hev.then he8 (fun b hb => .inl (by simpa using hb))
   replace hb_p0 := hp8_0
   clear hpk hsb hsb0 hpk2 hsb2 hst0 hsn hst
   refine x_pure 1 [(18, Vi (IntKind.i64.wrap (48 + x7.1)))] _ _ _ (by kernel_rfl) ?_
   refine x_convert (.int .u8 (IntKind.u8.wrap (IntKind.i64.wrap (48 + x7.1)))) _ rfl rfl rfl (tcv3_5 (IntKind.i64.wrap (48 + x7.1)) _) ?_
   refine inl1 ?_
   obtain ⟨x9, hx9, h⟩ := bind_some h
   obtain ⟨g9, cs9, ha, hr9, hc9, hR⟩ := own_index (Mo := []) tsl26 ho3 hx9
   subst ha
   obtain rfl := hR
   refine x_indexAddr (xv := .slice (Ad g9 0) (d4_l5).length c3) (yv := Vi i_s6_l5) (.pointer (some ⟨g9, (Int.toNat i_s6_l5) * (eInt .u8).n, none⟩)) rfl rfl rfl rfl hr9 ?_
   obtain ⟨w11, hr11, he11, ho11⟩ := own_store (y := IntKind.u8.wrap (IntKind.i64.wrap (48 + x7.1))) 0 (.int .u8 (IntKind.u8.wrap (IntKind.i64.wrap (48 + x7.1)))) tcell5 ho3 (mem_flat 0 rfl _ mem1) hx9 rfl rfl (fun _ _ _ hR => set_int hR)
   refine x_store w11 (xv := .pointer (some ⟨g9, (Int.toNat i_s6_l5) * (eInt .u8).n, none⟩)) (yv := .int .u8 (IntKind.u8.wrap (IntKind.i64.wrap (48 + x7.1)))) rfl rfl rfl rfl hr11 ?_
   refine inl1 ?_
   have hst := Stp.ev' (ls := [blk (Ad g9 0), [b_p0], M]) he11 (mem_flat 0 rfl)
   replace hb_p0 := he11.box hb_p0 (hms.apart 1 0 rfl rfl rfl _ mem1)
   replace hs_p0_0 := hs_p0_0.step hst
   replace hms := hms.ev he11
   replace hev := hev.then he11 (fun b hb => .inr (hfr.at 0 rfl b hb))
   replace ho3 := ho11
   have hsl : (Value.slice (Ad g9 0) (d4_l5).length c3) = (Value.slice (Ad g9 0) ((d4_l5.set (Int.toNat i_s6_l5) (IntKind.u8.wrap (IntKind.i64.wrap (48 + x7.1))))).length c3) := by first | (rw [List.length_set]; done) | simp only [List.length_set]
   try rw [hsl]
   clear hsl
   refine x_end rfl ?_
   refine k_block ?_
   refine k_then ?_
   refine c_plain ?_
   refine x_pure 3 [(12, Vi i_s6_l5), (13, Vi (IntKind.i64.wrap (i_s6_l5 + 1))), (6, Vi (IntKind.i64.wrap (i_s6_l5 + 1)))] _ _ _ (by kernel_rfl) ?_
   refine x_end rfl ?_
   have hx := some_inj h
   subst hx
   exact k_then ⟨(m5, x7.2, (d4_l5.set (Int.toNat i_s6_l5) (IntKind.u8.wrap (IntKind.i64.wrap (48 + x7.1)))), IntKind.i64.wrap (i_s6_l5 + 1), (Ad g9 0)), ⟨rfl, rfl, rfl, rfl, trivial⟩, ⟨hn5, hev, hms, hfr, hs_p0_0, hb_p0, ho3⟩, Nat.lt_succ_self _⟩
 replace h := ite_f hb h
 refine c_exit ?_
 refine k_then_exit ?_
 have hx := some_inj h
 subst hx
 have hy := some_inj hn5
 subst hy
 replace h := h5
 refine k_then_exit ?_
 refine k_block_in ?_
 refine k_then ?_
 refine c_norm [(5, .slice a4_l5 (d4_l5).length c3)] ⟨rfl, trivial⟩ (fun J => ?_)
 refine c_sp ?_
 refine x_pure 1 [(21, .slice a4_l5 (d4_l5).length c3)] _ _ _ (by kernel_rfl) ?_
 refine x_convert (xv := .slice a4_l5 (d4_l5).length c3) (Vs (ofB d4_l5)) _ rfl rfl rfl (run_ofB tuns26 tint5 tstr9 (ho3.ro (M' := []) (fun _ hb => by cases hb) (fun _ _ hb => by cases hb))) ?_
 refine inl1 ?_
 refine x_pure 1 [(4, Vs (ofB d4_l5))] _ _ _ (by kernel_rfl) ?_
 refine x_ek ?_
 refine c_ret ?_
 refine r_ret (r_vals [Vs (ofB d4_l5)] ⟨rfl, trivial⟩ ?_)
 have hx := some_inj h
 subst hx
 have hmr : MS wl5 [[b_p0], M] := hms.pick [some 1, some 2] _ rfl
 have hsu : ∀ x ∈ fl [[b_p0], M], x ∈ fl [blk a4_l5, [b_p0], M] := pick_sub [some 1, some 2] _ rfl
 exact ⟨rfl, hev, hb_p0⟩
def gen_Maker_Number (p0_0 : List Int) (p0_1 : Int) (p1 : Int) : Option ((List UInt8) × Int) :=
((gen_Maker_Digits p0_0 p0_1 11).bind fun x3 =>
(if x3.1.length ≤ 4294967296 then
((idx (toB x3.1) 8).bind fun x8 =>
((idx ((toB x3.1).set (Int.toNat 8) (IntKind.u8.wrap (IntKind.i64.wrap (48 + (Int.tmod (IntKind.i64.wrap (Int.tdiv p1 100)) 10))))) 9).bind fun x13 =>
((idx (((toB x3.1).set (Int.toNat 8) (IntKind.u8.wrap (IntKind.i64.wrap (48 + (Int.tmod (IntKind.i64.wrap (Int.tdiv p1 100)) 10))))).set (Int.toNat 9) (IntKind.u8.wrap (IntKind.i64.wrap (48 + (Int.tmod (IntKind.i64.wrap (Int.tdiv p1 10)) 10))))) 10).bind fun x18 =>
((r02_Digit (ofB ((((toB x3.1).set (Int.toNat 8) (IntKind.u8.wrap (IntKind.i64.wrap (48 + (Int.tmod (IntKind.i64.wrap (Int.tdiv p1 100)) 10))))).set (Int.toNat 9) (IntKind.u8.wrap (IntKind.i64.wrap (48 + (Int.tmod (IntKind.i64.wrap (Int.tdiv p1 10)) 10))))).set (Int.toNat 10) (IntKind.u8.wrap (IntKind.i64.wrap (48 + (Int.tmod p1 10))))))).bind fun x22 =>
(if (ofB ((((toB x3.1).set (Int.toNat 8) (IntKind.u8.wrap (IntKind.i64.wrap (48 + (Int.tmod (IntKind.i64.wrap (Int.tdiv p1 100)) 10))))).set (Int.toNat 9) (IntKind.u8.wrap (IntKind.i64.wrap (48 + (Int.tmod (IntKind.i64.wrap (Int.tdiv p1 10)) 10))))).set (Int.toNat 10) (IntKind.u8.wrap (IntKind.i64.wrap (48 + (Int.tmod p1 10)))))).length + (ofB ([IntKind.u8.wrap (IntKind.i64.wrap (48 + x22.1))])).length ≤ 4294967296 then
some (((ofB ((((toB x3.1).set (Int.toNat 8) (IntKind.u8.wrap (IntKind.i64.wrap (48 + (Int.tmod (IntKind.i64.wrap (Int.tdiv p1 100)) 10))))).set (Int.toNat 9) (IntKind.u8.wrap (IntKind.i64.wrap (48 + (Int.tmod (IntKind.i64.wrap (Int.tdiv p1 10)) 10))))).set (Int.toNat 10) (IntKind.u8.wrap (IntKind.i64.wrap (48 + (Int.tmod p1 10)))))) ++ (ofB ([IntKind.u8.wrap (IntKind.i64.wrap (48 + x22.1))]))), x3.2)
else none)))))
else none))

theorem gen_Maker_Number_w (b_p0 : Nat) (a_p0_0 : Option Addr) (c_p0_0 : Nat) (p0_0 : List Int) (p0_1 : Int) (p1 : Int) (r : (List UInt8) × Int) (w : World) (M : List Nat) (hms : MS w [[b_p0], M]) (hs_p0_0 : SlR (eInt .i64) w (fl [[b_p0], M]) a_p0_0 c_p0_0 p0_0) (hb_p0 : w.heap[b_p0]? = some (.cells #[.slice a_p0_0 (p0_0).length c_p0_0, Vi p0_1] 43 (0, 0))) (h : gen_Maker_Number p0_0 p0_1 p1 = some r) : CallVC Try.prog 10 [Vp b_p0 0, Vi p1] w fun v w' => v = Vs r.1 ∧ Ev [b_p0] w w' ∧ w'.heap[b_p0]? = some (.cells #[.slice a_p0_0 (p0_0).length c_p0_0, Vi r.2] 43 (0, 0)) := by
 refine calls_vc hmx Try.func10 (by kernel_rfl) rfl (rs := [.tmp 4]) rfl (by kernel_rfl) (args := [Vp b_p0 0, Vi p1]) rfl ?_
 have hev : Ev [b_p0] w w := Ev.refl _ _
 have hfr : FR w.heap.size [] := FR.nil _
 refine c_sp ?_
 refine x_pure 1 [(4, Vs ([] : List UInt8))] _ _ _ (by kernel_rfl) ?_
 refine x_ek ?_
 refine c_sp ?_
 refine x_pure 1 [(8, Vp b_p0 0)] _ _ _ (by kernel_rfl) ?_
 obtain ⟨x3, hx, h⟩ := bind_some h
 have hpk : MS w ([[b_p0]] ++ [M]) := hms.pick [some 0, some 1] _ rfl
 have hsb0 : ∀ x ∈ fl ([[b_p0]] ++ [M]), x ∈ fl [[b_p0], M] := pick_sub [some 0, some 1] _ rfl
 have hsb : ∀ x ∈ fl ([[b_p0]] ++ [(fl [M])]), x ∈ fl [[b_p0], M] := fun x hx => hsb0 x (fl_unfold x hx)
 have hcall := gen_Maker_Digits_w b_p0 a_p0_0 c_p0_0 p0_0 p0_1 11 _ w (fl [M]) (hpk.fold (P := [[b_p0]])) (hs_p0_0.sub hsb) hb_p0 hx
 refine x_call 14 #[] #[] [Vp b_p0 0, Vi 11] _ rfl rfl rfl rfl hcall ?_
 rintro v w4 ⟨rfl, he4, hp4_0⟩
 clear hcall hx
 refine inl1 ?_
 have hpk2 : MS w ([[b_p0]] ++ [M]) := hms.pick [some 0, some 1] _ rfl
 have hsb2 : ∀ x ∈ fl ([[b_p0]] ++ [M]), x ∈ fl [[b_p0], M] := pick_sub [some 0, some 1] _ rfl
 have hst0 := Stp.call (LS := [[b_p0], M]) (res := []) (par := [[b_p0]]) (R := [M]) he4 (fun b hb => hsb2 b (fl_left' (P := [[b_p0]]) b hb)) (FR.nil _) (NP.init _ _) (fun x hx => hsb2 x (fl_right' (P := [[b_p0]]) x hx))
 have hsn : ∀ x ∈ fl [[b_p0], M], x ∈ fl ([] ++ ([[b_p0]] ++ [M])) := pick_sub [some 0, some 1] _ rfl
 have hst := hst0.res hsn
 replace hs_p0_0 := hs_p0_0.step hst
 replace hms := hms.ev he4
 replace hev := hev.then he4 (fun b hb => .inl (by simpa using hb))
 replace hb_p0 := hp4_0
 clear hpk hsb hsb0 hpk2 hsb2 hst0 hsn hst
 have hg := guard_l h
 replace h := guard_r h
 obtain ⟨a5, c5, w5, hr5, he5, hn5, hw5⟩ := own_ofS (P := Try.prog) tstr9 tuns26 tint5 w4 x3.1 hg
 refine x_convert (xv := Vs x3.1) _ w5 rfl rfl rfl hr5 ?_
 refine inl1 ?_
 have hst := Stp.push (ls := [[b_p0], M]) (l := blk a5) he5 (fun _ h => by cases h) (fun b hb => (hn5 b hb).1)
 replace hs_p0_0 := hs_p0_0.step hst
 replace hb_p0 := he5.box hb_p0 nn
 replace hms := hms.push he5 hn5
 replace hfr := hfr.push (fun b hb => Nat.le_trans hev.size (hn5 b hb).1)
 replace hev := hev.ext he5
 have ho5 := hw5 (fl [blk a5, [b_p0], M])
 clear hw5
 refine x_pure 1 [(5, .slice a5 ((toB x3.1)).length c5)] _ _ _ (by kernel_rfl) ?_
 refine x_ek ?_
 refine c_sp ?_
 refine x_pure 7 [(11, .slice a5 ((toB x3.1)).length c5), (12, .slice a5 ((toB x3.1)).length c5), (13, .slice a5 ((toB x3.1)).length c5), (14, Vi p1), (15, Vi (IntKind.i64.wrap (Int.tdiv p1 100))), (16, Vi (Int.tmod (IntKind.i64.wrap (Int.tdiv p1 100)) 10)), (17, Vi (IntKind.i64.wrap (48 + (Int.tmod (IntKind.i64.wrap (Int.tdiv p1 100)) 10))))] _ _ _ (by kernel_rfl) ?_
 refine x_convert (.int .u8 (IntKind.u8.wrap (IntKind.i64.wrap (48 + (Int.tmod (IntKind.i64.wrap (Int.tdiv p1 100)) 10))))) _ rfl rfl rfl (tcv3_5 (IntKind.i64.wrap (48 + (Int.tmod (IntKind.i64.wrap (Int.tdiv p1 100)) 10))) _) ?_
 refine inl1 ?_
 refine x_pure 4 [(19, Vi p1), (20, Vi (IntKind.i64.wrap (Int.tdiv p1 10))), (21, Vi (Int.tmod (IntKind.i64.wrap (Int.tdiv p1 10)) 10)), (22, Vi (IntKind.i64.wrap (48 + (Int.tmod (IntKind.i64.wrap (Int.tdiv p1 10)) 10))))] _ _ _ (by kernel_rfl) ?_
 refine x_convert (.int .u8 (IntKind.u8.wrap (IntKind.i64.wrap (48 + (Int.tmod (IntKind.i64.wrap (Int.tdiv p1 10)) 10))))) _ rfl rfl rfl (tcv3_5 (IntKind.i64.wrap (48 + (Int.tmod (IntKind.i64.wrap (Int.tdiv p1 10)) 10))) _) ?_
 refine inl1 ?_
 refine x_pure 3 [(24, Vi p1), (25, Vi (Int.tmod p1 10)), (26, Vi (IntKind.i64.wrap (48 + (Int.tmod p1 10))))] _ _ _ (by kernel_rfl) ?_
 refine x_convert (.int .u8 (IntKind.u8.wrap (IntKind.i64.wrap (48 + (Int.tmod p1 10))))) _ rfl rfl rfl (tcv3_5 (IntKind.i64.wrap (48 + (Int.tmod p1 10))) _) ?_
 refine inl1 ?_
 obtain ⟨x8, hx8, h⟩ := bind_some h
 obtain ⟨g8, cs8, ha, hr8, hc8, hR⟩ := own_indexM (Mo := []) tsl26 ho5 hx8
 subst ha
 obtain rfl := hR
 refine x_indexAddr (xv := .slice (Ad g8 0) ((toB x3.1)).length c5) (yv := Vi 8) (.pointer (some ⟨g8, (Int.toNat 8) * (eInt .u8).n, none⟩)) rfl rfl rfl rfl hr8 ?_
 obtain ⟨w11, hr11, he11, ho11⟩ := own_storeM (y := IntKind.u8.wrap (IntKind.i64.wrap (48 + (Int.tmod (IntKind.i64.wrap (Int.tdiv p1 100)) 10)))) 0 (.int .u8 (IntKind.u8.wrap (IntKind.i64.wrap (48 + (Int.tmod (IntKind.i64.wrap (Int.tdiv p1 100)) 10))))) tcell5 ho5 (mem_flat 0 rfl _ mem1) hx8 rfl rfl (fun _ _ _ hR => set_int hR)
 refine x_store w11 (xv := .pointer (some ⟨g8, (Int.toNat 8) * (eInt .u8).n, none⟩)) (yv := .int .u8 (IntKind.u8.wrap (IntKind.i64.wrap (48 + (Int.tmod (IntKind.i64.wrap (Int.tdiv p1 100)) 10))))) rfl rfl rfl rfl hr11 ?_
 refine inl1 ?_
 have hst := Stp.ev' (ls := [blk (Ad g8 0), [b_p0], M]) he11 (mem_flat 0 rfl)
 replace hs_p0_0 := hs_p0_0.step hst
 replace hb_p0 := he11.box hb_p0 (hms.apart 1 0 rfl rfl rfl _ mem1)
 replace hms := hms.ev he11
 replace hev := hev.then he11 (fun b hb => .inr (hfr.at 0 rfl b hb))
 replace ho5 := ho11
 have hsl : (Value.slice (Ad g8 0) ((toB x3.1)).length c5) = (Value.slice (Ad g8 0) (((toB x3.1).set (Int.toNat 8) (IntKind.u8.wrap (IntKind.i64.wrap (48 + (Int.tmod (IntKind.i64.wrap (Int.tdiv p1 100)) 10)))))).length c5) := by first | (rw [List.length_set]; done) | simp only [List.length_set]
 try rw [hsl]
 clear hsl
 obtain ⟨x13, hx13, h⟩ := bind_some h
 obtain ⟨g13, cs13, ha, hr13, hc13, hR⟩ := own_indexM (Mo := []) tsl26 ho5 hx13
 have hg : g8 = g13 := by cases ha; rfl
 subst hg
 obtain rfl := hR
 refine x_indexAddr (xv := .slice (Ad g8 0) (((toB x3.1).set (Int.toNat 8) (IntKind.u8.wrap (IntKind.i64.wrap (48 + (Int.tmod (IntKind.i64.wrap (Int.tdiv p1 100)) 10)))))).length c5) (yv := Vi 9) (.pointer (some ⟨g8, (Int.toNat 9) * (eInt .u8).n, none⟩)) rfl rfl rfl rfl hr13 ?_
 obtain ⟨w16, hr16, he16, ho16⟩ := own_storeM (y := IntKind.u8.wrap (IntKind.i64.wrap (48 + (Int.tmod (IntKind.i64.wrap (Int.tdiv p1 10)) 10)))) 0 (.int .u8 (IntKind.u8.wrap (IntKind.i64.wrap (48 + (Int.tmod (IntKind.i64.wrap (Int.tdiv p1 10)) 10))))) tcell5 ho5 (mem_flat 0 rfl _ mem1) hx13 rfl rfl (fun _ _ _ hR => set_int hR)
 refine x_store w16 (xv := .pointer (some ⟨g8, (Int.toNat 9) * (eInt .u8).n, none⟩)) (yv := .int .u8 (IntKind.u8.wrap (IntKind.i64.wrap (48 + (Int.tmod (IntKind.i64.wrap (Int.tdiv p1 10)) 10))))) rfl rfl rfl rfl hr16 ?_
 refine inl1 ?_
 have hst := Stp.ev' (ls := [blk (Ad g8 0), [b_p0], M]) he16 (mem_flat 0 rfl)
 replace hs_p0_0 := hs_p0_0.step hst
 replace hb_p0 := he16.box hb_p0 (hms.apart 1 0 rfl rfl rfl _ mem1)
 replace hms := hms.ev he16
 replace hev := hev.then he16 (fun b hb => .inr (hfr.at 0 rfl b hb))
 replace ho5 := ho16
 have hsl : (Value.slice (Ad g8 0) (((toB x3.1).set (Int.toNat 8) (IntKind.u8.wrap (IntKind.i64.wrap (48 + (Int.tmod (IntKind.i64.wrap (Int.tdiv p1 100)) 10)))))).length c5) = (Value.slice (Ad g8 0) ((((toB x3.1).set (Int.toNat 8) (IntKind.u8.wrap (IntKind.i64.wrap (48 + (Int.tmod (IntKind.i64.wrap (Int.tdiv p1 100)) 10))))).set (Int.toNat 9) (IntKind.u8.wrap (IntKind.i64.wrap (48 + (Int.tmod (IntKind.i64.wrap (Int.tdiv p1 10)) 10)))))).length c5) := by first | (rw [List.length_set]; done) | simp only [List.length_set]
 try rw [hsl]
 clear hsl
 obtain ⟨x18, hx18, h⟩ := bind_some h
 obtain ⟨g18, cs18, ha, hr18, hc18, hR⟩ := own_indexM (Mo := []) tsl26 ho5 hx18
 have hg : g8 = g18 := by cases ha; rfl
 subst hg
 obtain rfl := hR
 refine x_indexAddr (xv := .slice (Ad g8 0) ((((toB x3.1).set (Int.toNat 8) (IntKind.u8.wrap (IntKind.i64.wrap (48 + (Int.tmod (IntKind.i64.wrap (Int.tdiv p1 100)) 10))))).set (Int.toNat 9) (IntKind.u8.wrap (IntKind.i64.wrap (48 + (Int.tmod (IntKind.i64.wrap (Int.tdiv p1 10)) 10)))))).length c5) (yv := Vi 10) (.pointer (some ⟨g8, (Int.toNat 10) * (eInt .u8).n, none⟩)) rfl rfl rfl rfl hr18 ?_
 obtain ⟨w21, hr21, he21, ho21⟩ := own_storeM (y := IntKind.u8.wrap (IntKind.i64.wrap (48 + (Int.tmod p1 10)))) 0 (.int .u8 (IntKind.u8.wrap (IntKind.i64.wrap (48 + (Int.tmod p1 10))))) tcell5 ho5 (mem_flat 0 rfl _ mem1) hx18 rfl rfl (fun _ _ _ hR => set_int hR)
 refine x_store w21 (xv := .pointer (some ⟨g8, (Int.toNat 10) * (eInt .u8).n, none⟩)) (yv := .int .u8 (IntKind.u8.wrap (IntKind.i64.wrap (48 + (Int.tmod p1 10))))) rfl rfl rfl rfl hr21 ?_
 refine inl1 ?_
 have hst := Stp.ev' (ls := [blk (Ad g8 0), [b_p0], M]) he21 (mem_flat 0 rfl)
 replace hs_p0_0 := hs_p0_0.step hst
 replace hb_p0 := he21.box hb_p0 (hms.apart 1 0 rfl rfl rfl _ mem1)
 replace hms := hms.ev he21
 replace hev := hev.then he21 (fun b hb => .inr (hfr.at 0 rfl b hb))
 replace ho5 := ho21
 have hsl : (Value.slice (Ad g8 0) ((((toB x3.1).set (Int.toNat 8) (IntKind.u8.wrap (IntKind.i64.wrap (48 + (Int.tmod (IntKind.i64.wrap (Int.tdiv p1 100)) 10))))).set (Int.toNat 9) (IntKind.u8.wrap (IntKind.i64.wrap (48 + (Int.tmod (IntKind.i64.wrap (Int.tdiv p1 10)) 10)))))).length c5) = (Value.slice (Ad g8 0) (((((toB x3.1).set (Int.toNat 8) (IntKind.u8.wrap (IntKind.i64.wrap (48 + (Int.tmod (IntKind.i64.wrap (Int.tdiv p1 100)) 10))))).set (Int.toNat 9) (IntKind.u8.wrap (IntKind.i64.wrap (48 + (Int.tmod (IntKind.i64.wrap (Int.tdiv p1 10)) 10))))).set (Int.toNat 10) (IntKind.u8.wrap (IntKind.i64.wrap (48 + (Int.tmod p1 10)))))).length c5) := by first | (rw [List.length_set]; done) | simp only [List.length_set]
 try rw [hsl]
 clear hsl
 refine x_ek ?_
 refine c_norm [(5, .slice (Ad g8 0) (((((toB x3.1).set (Int.toNat 8) (IntKind.u8.wrap (IntKind.i64.wrap (48 + (Int.tmod (IntKind.i64.wrap (Int.tdiv p1 100)) 10))))).set (Int.toNat 9) (IntKind.u8.wrap (IntKind.i64.wrap (48 + (Int.tmod (IntKind.i64.wrap (Int.tdiv p1 10)) 10))))).set (Int.toNat 10) (IntKind.u8.wrap (IntKind.i64.wrap (48 + (Int.tmod p1 10)))))).length c5)] ⟨rfl, trivial⟩ (fun J => ?_)
 refine c_sp ?_
 refine x_pure 1 [(32, .slice (Ad g8 0) (((((toB x3.1).set (Int.toNat 8) (IntKind.u8.wrap (IntKind.i64.wrap (48 + (Int.tmod (IntKind.i64.wrap (Int.tdiv p1 100)) 10))))).set (Int.toNat 9) (IntKind.u8.wrap (IntKind.i64.wrap (48 + (Int.tmod (IntKind.i64.wrap (Int.tdiv p1 10)) 10))))).set (Int.toNat 10) (IntKind.u8.wrap (IntKind.i64.wrap (48 + (Int.tmod p1 10)))))).length c5)] _ _ _ (by kernel_rfl) ?_
 refine x_convert (xv := .slice (Ad g8 0) (((((toB x3.1).set (Int.toNat 8) (IntKind.u8.wrap (IntKind.i64.wrap (48 + (Int.tmod (IntKind.i64.wrap (Int.tdiv p1 100)) 10))))).set (Int.toNat 9) (IntKind.u8.wrap (IntKind.i64.wrap (48 + (Int.tmod (IntKind.i64.wrap (Int.tdiv p1 10)) 10))))).set (Int.toNat 10) (IntKind.u8.wrap (IntKind.i64.wrap (48 + (Int.tmod p1 10)))))).length c5) (Vs (ofB ((((toB x3.1).set (Int.toNat 8) (IntKind.u8.wrap (IntKind.i64.wrap (48 + (Int.tmod (IntKind.i64.wrap (Int.tdiv p1 100)) 10))))).set (Int.toNat 9) (IntKind.u8.wrap (IntKind.i64.wrap (48 + (Int.tmod (IntKind.i64.wrap (Int.tdiv p1 10)) 10))))).set (Int.toNat 10) (IntKind.u8.wrap (IntKind.i64.wrap (48 + (Int.tmod p1 10))))))) _ rfl rfl rfl (run_ofB tuns26 tint5 tstr9 (ho5.ro (M' := []) (fun _ hb => by cases hb) (fun _ _ hb => by cases hb))) ?_
 refine inl1 ?_
 obtain ⟨x22, hx, h⟩ := bind_some h
 have hcall := r02_Digit_w (ofB ((((toB x3.1).set (Int.toNat 8) (IntKind.u8.wrap (IntKind.i64.wrap (48 + (Int.tmod (IntKind.i64.wrap (Int.tdiv p1 100)) 10))))).set (Int.toNat 9) (IntKind.u8.wrap (IntKind.i64.wrap (48 + (Int.tmod (IntKind.i64.wrap (Int.tdiv p1 10)) 10))))).set (Int.toNat 10) (IntKind.u8.wrap (IntKind.i64.wrap (48 + (Int.tmod p1 10)))))) _ w21 hx
 refine x_call 21 #[] #[] [Vs (ofB ((((toB x3.1).set (Int.toNat 8) (IntKind.u8.wrap (IntKind.i64.wrap (48 + (Int.tmod (IntKind.i64.wrap (Int.tdiv p1 100)) 10))))).set (Int.toNat 9) (IntKind.u8.wrap (IntKind.i64.wrap (48 + (Int.tmod (IntKind.i64.wrap (Int.tdiv p1 10)) 10))))).set (Int.toNat 10) (IntKind.u8.wrap (IntKind.i64.wrap (48 + (Int.tmod p1 10))))))] _ rfl rfl rfl rfl hcall ?_
 rintro v w23 ⟨rfl, he23⟩
 clear hcall hx
 refine inl1 ?_
 have hst := Stp.ext (ls := [blk (Ad g8 0), [b_p0], M]) he23
 replace hs_p0_0 := hs_p0_0.step hst
 replace hb_p0 := he23.box hb_p0 nn
 replace ho5 := ho5.step hst he23 nn2
 replace hms := hms.ev he23
 replace hev := hev.ext he23
 refine x_pure 5 [(31, .tuple #[Vi x22.1, Vi x22.2]), (35, Vi x22.1), (36, Vi x22.2), (6, Vi x22.1), (7, Vi x22.2)] _ _ _ (by kernel_rfl) ?_
 refine x_ek ?_
 refine c_sp ?_
 refine x_pure 1 [(37, .slice (Ad g8 0) (((((toB x3.1).set (Int.toNat 8) (IntKind.u8.wrap (IntKind.i64.wrap (48 + (Int.tmod (IntKind.i64.wrap (Int.tdiv p1 100)) 10))))).set (Int.toNat 9) (IntKind.u8.wrap (IntKind.i64.wrap (48 + (Int.tmod (IntKind.i64.wrap (Int.tdiv p1 10)) 10))))).set (Int.toNat 10) (IntKind.u8.wrap (IntKind.i64.wrap (48 + (Int.tmod p1 10)))))).length c5)] _ _ _ (by kernel_rfl) ?_
 refine x_convert (xv := .slice (Ad g8 0) (((((toB x3.1).set (Int.toNat 8) (IntKind.u8.wrap (IntKind.i64.wrap (48 + (Int.tmod (IntKind.i64.wrap (Int.tdiv p1 100)) 10))))).set (Int.toNat 9) (IntKind.u8.wrap (IntKind.i64.wrap (48 + (Int.tmod (IntKind.i64.wrap (Int.tdiv p1 10)) 10))))).set (Int.toNat 10) (IntKind.u8.wrap (IntKind.i64.wrap (48 + (Int.tmod p1 10)))))).length c5) (Vs (ofB ((((toB x3.1).set (Int.toNat 8) (IntKind.u8.wrap (IntKind.i64.wrap (48 + (Int.tmod (IntKind.i64.wrap (Int.tdiv p1 100)) 10))))).set (Int.toNat 9) (IntKind.u8.wrap (IntKind.i64.wrap (48 + (Int.tmod (IntKind.i64.wrap (Int.tdiv p1 10)) 10))))).set (Int.toNat 10) (IntKind.u8.wrap (IntKind.i64.wrap (48 + (Int.tmod p1 10))))))) _ rfl rfl rfl (run_ofB tuns26 tint5 tstr9 (ho5.ro (M' := []) (fun _ hb => by cases hb) (fun _ _ hb => by cases hb))) ?_
 refine inl1 ?_
 refine x_pure 2 [(39, Vi x22.1), (40, Vi (IntKind.i64.wrap (48 + x22.1)))] _ _ _ (by kernel_rfl) ?_
 refine x_convert (.int .u8 (IntKind.u8.wrap (IntKind.i64.wrap (48 + x22.1)))) _ rfl rfl rfl (tcv3_5 (IntKind.i64.wrap (48 + x22.1)) _) ?_
 refine inl1 ?_
 refine x_buildSlice (vs := [(0, .int .u8 (IntKind.u8.wrap (IntKind.i64.wrap (48 + x22.1))))]) #[.int .u8 (IntKind.u8.wrap (IntKind.i64.wrap (48 + x22.1)))] 5 rfl rfl rfl (by kernel_rfl) (fun b24 w24 hq24 hb24 he24 hz24 => ?_)
 refine inl1 ?_
 have hms0 := hms
 have hst := Stp.ext (ls := [blk (Ad g8 0), [b_p0], M]) he24
 replace hs_p0_0 := hs_p0_0.step hst
 replace hb_p0 := he24.box hb_p0 nn
 replace ho5 := ho5.step hst he24 nn2
 replace hms := hms.ev he24
 replace hev := hev.ext he24
 have hs24 : SlR (eInt .u8) w24 (fl [blk (Ad g8 0), [b_p0], M]) (Ad b24 0) 1 ([IntKind.u8.wrap (IntKind.i64.wrap (48 + x22.1))]) := ro_of_box hms0 hq24 hb24 rfl rfl (cells_at (cs := [.int .u8 (IntKind.u8.wrap (IntKind.i64.wrap (48 + x22.1)))]) (CellsOf.cons (c := [.int .u8 (IntKind.u8.wrap (IntKind.i64.wrap (48 + x22.1)))]) rfl CellsOf.nil))
 clear hb24 hms0
 refine x_convert (xv := .slice (Ad b24 0) ([IntKind.u8.wrap (IntKind.i64.wrap (48 + x22.1))]).length 1) (Vs (ofB ([IntKind.u8.wrap (IntKind.i64.wrap (48 + x22.1))]))) _ rfl rfl rfl (run_ofB tuns26 tint5 tstr9 hs24) ?_
 refine inl1 ?_
 refine x_binop (Vs ((ofB ((((toB x3.1).set (Int.toNat 8) (IntKind.u8.wrap (IntKind.i64.wrap (48 + (Int.tmod (IntKind.i64.wrap (Int.tdiv p1 100)) 10))))).set (Int.toNat 9) (IntKind.u8.wrap (IntKind.i64.wrap (48 + (Int.tmod (IntKind.i64.wrap (Int.tdiv p1 10)) 10))))).set (Int.toNat 10) (IntKind.u8.wrap (IntKind.i64.wrap (48 + (Int.tmod p1 10)))))) ++ (ofB ([IntKind.u8.wrap (IntKind.i64.wrap (48 + x22.1))])))) (Vs (ofB ((((toB x3.1).set (Int.toNat 8) (IntKind.u8.wrap (IntKind.i64.wrap (48 + (Int.tmod (IntKind.i64.wrap (Int.tdiv p1 100)) 10))))).set (Int.toNat 9) (IntKind.u8.wrap (IntKind.i64.wrap (48 + (Int.tmod (IntKind.i64.wrap (Int.tdiv p1 10)) 10))))).set (Int.toNat 10) (IntKind.u8.wrap (IntKind.i64.wrap (48 + (Int.tmod p1 10))))))) (Vs (ofB ([IntKind.u8.wrap (IntKind.i64.wrap (48 + x22.1))]))) rfl rfl rfl rfl (bin_sadd (guard_l h)) ?_
 replace h := guard_r h
 refine x_pure 1 [(4, Vs ((ofB ((((toB x3.1).set (Int.toNat 8) (IntKind.u8.wrap (IntKind.i64.wrap (48 + (Int.tmod (IntKind.i64.wrap (Int.tdiv p1 100)) 10))))).set (Int.toNat 9) (IntKind.u8.wrap (IntKind.i64.wrap (48 + (Int.tmod (IntKind.i64.wrap (Int.tdiv p1 10)) 10))))).set (Int.toNat 10) (IntKind.u8.wrap (IntKind.i64.wrap (48 + (Int.tmod p1 10)))))) ++ (ofB ([IntKind.u8.wrap (IntKind.i64.wrap (48 + x22.1))]))))] _ _ _ (by kernel_rfl) ?_
 refine x_ek ?_
 refine c_norm [(4, Vs ((ofB ((((toB x3.1).set (Int.toNat 8) (IntKind.u8.wrap (IntKind.i64.wrap (48 + (Int.tmod (IntKind.i64.wrap (Int.tdiv p1 100)) 10))))).set (Int.toNat 9) (IntKind.u8.wrap (IntKind.i64.wrap (48 + (Int.tmod (IntKind.i64.wrap (Int.tdiv p1 10)) 10))))).set (Int.toNat 10) (IntKind.u8.wrap (IntKind.i64.wrap (48 + (Int.tmod p1 10)))))) ++ (ofB ([IntKind.u8.wrap (IntKind.i64.wrap (48 + x22.1))]))))] ⟨rfl, trivial⟩ (fun J => ?_)
 refine c_ret ?_
 refine r_ret (r_vals [Vs ((ofB ((((toB x3.1).set (Int.toNat 8) (IntKind.u8.wrap (IntKind.i64.wrap (48 + (Int.tmod (IntKind.i64.wrap (Int.tdiv p1 100)) 10))))).set (Int.toNat 9) (IntKind.u8.wrap (IntKind.i64.wrap (48 + (Int.tmod (IntKind.i64.wrap (Int.tdiv p1 10)) 10))))).set (Int.toNat 10) (IntKind.u8.wrap (IntKind.i64.wrap (48 + (Int.tmod p1 10)))))) ++ (ofB ([IntKind.u8.wrap (IntKind.i64.wrap (48 + x22.1))])))] ⟨rfl, trivial⟩ ?_)
 have hx := some_inj h
 subst hx
 have hmr : MS w24 [[b_p0], M] := hms.pick [some 1, some 2] _ rfl
 have hsu : ∀ x ∈ fl [[b_p0], M], x ∈ fl [blk (Ad g8 0), [b_p0], M] := pick_sub [some 1, some 2] _ rfl
 exact ⟨rfl, hev, hb_p0⟩
def gen_Strings_L4 (p0 : List (List UInt8)) (p1 : List (List UInt8)) (s : Int) : Option (Step Int (Unit ⊕ Unit)) :=
match s with
| i_s5_l4 =>
(if (decide (i_s5_l4 < ((p0).length : Int))) = true then
((idx p0 i_s5_l4).bind fun x6 =>
((idx p1 i_s5_l4).bind fun x8 =>
(if (x6 != x8) = true then
some (.done (.inl ()))
else
some (.next (IntKind.i64.wrap (i_s5_l4 + 1))))))
else
some (.done (.inr ())))

def gen_Strings (p0 : List (List UInt8)) (p1 : List (List UInt8)) : Option Bool :=
(if (((p0).length : Int) != ((p1).length : Int)) = true then
some false
else
((loop (gen_Strings_L4 p0 p1) 0).bind fun d => match d with
| (.inl _) => some false
| (.inr _) => some true))

theorem gen_Strings_w (a_p0 : Option Addr) (c_p0 : Nat) (p0 : List (List UInt8)) (a_p1 : Option Addr) (c_p1 : Nat) (p1 : List (List UInt8)) (r : Bool) (w : World) (M : List Nat) (hms : MS w [M]) (hs_p0 : SlR eStr w (fl [M]) a_p0 c_p0 p0) (hs_p1 : SlR eStr w (fl [M]) a_p1 c_p1 p1) (h : gen_Strings p0 p1 = some r) : CallVC Try.prog 33 [.slice a_p0 (p0).length c_p0, .slice a_p1 (p1).length c_p1] w fun v w' => v = .bool r ∧ Ev [] w w' := by
 refine calls_vc hmx Try.func33 (by kernel_rfl) rfl (rs := [.tmp 4]) rfl (by kernel_rfl) (args := [.slice a_p0 (p0).length c_p0, .slice a_p1 (p1).length c_p1]) rfl ?_
 have hev : Ev [] w w := Ev.refl _ _
 have hfr : FR w.heap.size [] := FR.nil _
 refine c_sp ?_
 refine x_pure 1 [(4, .bool false)] _ _ _ (by kernel_rfl) ?_
 refine x_ek ?_
 refine c_seq ?_
 refine c_sp ?_
 refine x_pure 1 [(6, .slice a_p0 (p0).length c_p0)] _ _ _ (by kernel_rfl) ?_
 refine x_len (vs := [.slice a_p0 (p0).length c_p0]) (Vi ((p0).length : Int)) rfl rfl rfl (reads_len tsl29 _ _ _ _ _) ?_
 refine x_pure 1 [(8, .slice a_p1 (p1).length c_p1)] _ _ _ (by kernel_rfl) ?_
 refine x_len (vs := [.slice a_p1 (p1).length c_p1]) (Vi ((p1).length : Int)) rfl rfl rfl (reads_len tsl29 _ _ _ _ _) ?_
 refine x_pure 1 [(10, .bool (((p0).length : Int) != ((p1).length : Int)))] _ _ _ (by kernel_rfl) ?_
 refine x_ek ?_
 refine c_cond (((p0).length : Int) != ((p1).length : Int)) rfl (fun hb => ?_) (fun hb => ?_)
 · replace h := ite_t hb h
   refine c_sp ?_
   refine x_pure 1 [(4, .bool false)] _ _ _ (by kernel_rfl) ?_
   refine x_ek ?_
   refine c_ret ?_
   refine k_then_ret ?_
   refine r_ret (r_vals [.bool false] ⟨rfl, trivial⟩ ?_)
   have hx := some_inj h
   subst hx
   have hmr : MS w [M] := hms.pick [some 0] _ rfl
   have hsu : ∀ x ∈ fl [M], x ∈ fl [M] := pick_sub [some 0] _ rfl
   exact ⟨rfl, hev⟩
 replace h := ite_f hb h
 refine c_skip ?_
 refine k_then ?_
 refine c_seq ?_
 refine c_sp ?_
 refine x_pure 1 [(5, Vi 0)] _ _ _ (by kernel_rfl) ?_
 refine x_ek ?_
 refine c_block ?_
 obtain ⟨d4, hd4, h4⟩ := bind_some h
 obtain ⟨m4, hd4⟩ := loop_some hd4
 refine c_loop (loop_rule hmx (σ := Nat × Int) (fun s => match s with | (_, i_s5_l4) => [(0, .slice a_p0 (p0).length c_p0), (1, .slice a_p1 (p1).length c_p1), (5, Vi i_s5_l4)]) (fun s w' => match s with | (m, i_s5_l4) => loopN (gen_Strings_L4 p0 p1) m i_s5_l4 = some d4 ∧ Ev [] w w' ∧ MS w' [M] ∧ FR w.heap.size [] ∧ SlR eStr w' (fl [M]) a_p0 c_p0 p0 ∧ SlR eStr w' (fl [M]) a_p1 c_p1 p1) (fun s => s.1) (m4, 0) ⟨rfl, rfl, rfl, trivial⟩ ⟨hd4, hev, hms, hfr, hs_p0, hs_p1⟩ ?_)
 rintro ⟨m4, i_s5_l4⟩ J wl4 ⟨hn4, hev, hms, hfr, hs_p0, hs_p1⟩
 rcases m4 with _ | m4
 · exact (loopN_zero hn4).elim
 obtain ⟨t4, h, hn4⟩ := bind_some hn4
 refine c_seq ?_
 refine c_sp ?_
 refine x_pure 2 [(11, Vi i_s5_l4), (12, .slice a_p0 (p0).length c_p0)] _ _ _ (by kernel_rfl) ?_
 refine x_len (vs := [.slice a_p0 (p0).length c_p0]) (Vi ((p0).length : Int)) rfl rfl rfl (reads_len tsl29 _ _ _ _ _) ?_
 refine x_pure 1 [(14, .bool (decide (i_s5_l4 < ((p0).length : Int))))] _ _ _ (by kernel_rfl) ?_
 refine x_ek ?_
 refine c_norm [(0, .slice a_p0 (p0).length c_p0), (1, .slice a_p1 (p1).length c_p1), (5, Vi i_s5_l4), (14, .bool (decide (i_s5_l4 < ((p0).length : Int))))] ⟨rfl, rfl, rfl, rfl, trivial⟩ (fun J => ?_)
 refine c_cond (decide (i_s5_l4 < ((p0).length : Int))) rfl (fun hb => ?_) (fun hb => ?_)
 · replace h := ite_t hb h
   refine c_skip ?_
   refine k_then ?_
   refine c_seq ?_
   refine c_block ?_
   refine c_seq ?_
   refine c_drawn [] [(0, false), (1, false), (2, false), (3, false), (4, false), (5, false), (6, false), (7, false), (8, false)] _ (by kernel_rfl) rfl ?_
   have hst := Stp.ext (ls := [M]) (Ev.drew wl4)
   replace hs_p0 := hs_p0.step hst
   replace hs_p1 := hs_p1.step hst
   replace hms := hms.ev (Ev.drew wl4)
   replace hev := hev.ext (Ev.drew wl4)
   refine x_pure 2 [(17, .slice a_p0 (p0).length c_p0), (18, Vi i_s5_l4)] _ _ _ (by kernel_rfl) ?_
   obtain ⟨x6, hx6, h⟩ := bind_some h
   obtain ⟨ad6, cs6, hr6, hc6, hR⟩ := reads_index (Mo := []) tsl29 hs_p0 hx6
   obtain rfl := hR
   refine x_indexAddr (xv := .slice a_p0 (p0).length c_p0) (yv := Vi i_s5_l4) (.pointer (some ad6)) rfl rfl rfl rfl hr6 ?_
   refine x_load (xv := .pointer (some ad6)) (Vs x6) rfl rfl rfl (reads_cell0 tcell9 hc6 (fun _ h => by cases h)) ?_
   refine x_pure 2 [(21, .slice a_p1 (p1).length c_p1), (22, Vi i_s5_l4)] _ _ _ (by kernel_rfl) ?_
   obtain ⟨x8, hx8, h⟩ := bind_some h
   obtain ⟨ad8, cs8, hr8, hc8, hR⟩ := reads_index (Mo := []) tsl29 hs_p1 hx8
   obtain rfl := hR
   refine x_indexAddr (xv := .slice a_p1 (p1).length c_p1) (yv := Vi i_s5_l4) (.pointer (some ad8)) rfl rfl rfl rfl hr8 ?_
   refine x_load (xv := .pointer (some ad8)) (Vs x8) rfl rfl rfl (reads_cell0 tcell9 hc8 (fun _ h => by cases h)) ?_
   refine x_binop (.bool (x6 != x8)) (Vs x6) (Vs x8) rfl rfl rfl rfl (bin_sne) ?_
   refine x_ek ?_
   refine c_cond (x6 != x8) rfl (fun hb => ?_) (fun hb => ?_)
   · replace h := ite_t hb h
     refine c_sp ?_
     refine x_pure 1 [(4, .bool false)] _ _ _ (by kernel_rfl) ?_
     refine x_ek ?_
     refine c_ret ?_
     refine k_block_ret ?_
     refine k_then_ret ?_
     have hx := some_inj h
     subst hx
     have hy := some_inj hn4
     subst hy
     replace h := h4
     refine k_then_ret ?_
     refine k_block_ret ?_
     refine k_then_ret ?_
     refine r_ret (r_vals [.bool false] ⟨rfl, trivial⟩ ?_)
     have hx := some_inj h
     subst hx
     have hmr : MS (wl4).drew [M] := hms.pick [some 0] _ rfl
     have hsu : ∀ x ∈ fl [M], x ∈ fl [M] := pick_sub [some 0] _ rfl
     exact ⟨rfl, hev⟩
   replace h := ite_f hb h
   refine c_skip ?_
   refine k_block ?_
   refine k_then ?_
   refine c_plain ?_
   refine x_pure 3 [(15, Vi i_s5_l4), (16, Vi (IntKind.i64.wrap (i_s5_l4 + 1))), (5, Vi (IntKind.i64.wrap (i_s5_l4 + 1)))] _ _ _ (by kernel_rfl) ?_
   refine x_end rfl ?_
   have hx := some_inj h
   subst hx
   exact k_then ⟨(m4, IntKind.i64.wrap (i_s5_l4 + 1)), ⟨rfl, rfl, rfl, trivial⟩, ⟨hn4, hev, hms, hfr, hs_p0, hs_p1⟩, Nat.lt_succ_self _⟩
 replace h := ite_f hb h
 refine c_exit ?_
 refine k_then_exit ?_
 have hx := some_inj h
 subst hx
 have hy := some_inj hn4
 subst hy
 replace h := h4
 refine k_then_exit ?_
 refine k_block_in ?_
 refine k_then ?_
 refine c_norm [] trivial (fun J => ?_)
 refine c_sp ?_
 refine x_pure 1 [(4, .bool true)] _ _ _ (by kernel_rfl) ?_
 refine x_ek ?_
 refine c_ret ?_
 refine r_ret (r_vals [.bool true] ⟨rfl, trivial⟩ ?_)
 have hx := some_inj h
 subst hx
 have hmr : MS wl4 [M] := hms.pick [some 0] _ rfl
 have hsu : ∀ x ∈ fl [M], x ∈ fl [M] := pick_sub [some 0] _ rfl
 exact ⟨rfl, hev⟩
def gen_Maker_Spoil (p0_0 : List Int) (p0_1 : Int) (p1 : List UInt8) : Option ((List UInt8) × Int) :=
(if (p1 == ([] : List UInt8)) = true then
((gen_Maker_Next p0_0 p0_1 256).bind fun x4 =>
some ((ofB ([IntKind.u8.wrap x4.1])), x4.2))
else
((gen_Maker_Next p0_0 p0_1 (p1.length : Int)).bind fun x8 =>
((gen_Maker_Next p0_0 x8.2 4).bind fun x11 =>
(if (x11.1 == 0) = true then
(if 0 ≤ ((0 : Int) : Int) ∧ ((0 : Int) : Int) ≤ (x8.1 : Int) ∧ (x8.1 : Int) ≤ (p1.length : Int) then
(if 0 ≤ (IntKind.i64.wrap (x8.1 + 1) : Int) ∧ (IntKind.i64.wrap (x8.1 + 1) : Int) ≤ ((p1.length : Int) : Int) ∧ ((p1.length : Int) : Int) ≤ (p1.length : Int) then
(if ((p1.drop (Int.toNat (0 : Int))).take (Int.toNat x8.1 - Int.toNat (0 : Int))).length + ((p1.drop (Int.toNat (IntKind.i64.wrap (x8.1 + 1)))).take (Int.toNat (p1.length : Int) - Int.toNat (IntKind.i64.wrap (x8.1 + 1)))).length ≤ 4294967296 then
some ((((p1.drop (Int.toNat (0 : Int))).take (Int.toNat x8.1 - Int.toNat (0 : Int))) ++ ((p1.drop (Int.toNat (IntKind.i64.wrap (x8.1 + 1)))).take (Int.toNat (p1.length : Int) - Int.toNat (IntKind.i64.wrap (x8.1 + 1))))), x11.2)
else none)
else none)
else none)
else
(if (x11.1 == 1) = true then
(if 0 ≤ ((0 : Int) : Int) ∧ ((0 : Int) : Int) ≤ (x8.1 : Int) ∧ (x8.1 : Int) ≤ (p1.length : Int) then
(if 0 ≤ (x8.1 : Int) ∧ (x8.1 : Int) ≤ ((p1.length : Int) : Int) ∧ ((p1.length : Int) : Int) ≤ (p1.length : Int) then
((gen_Maker_Next p0_0 x11.2 256).bind fun x13 =>
(if ((p1.drop (Int.toNat (0 : Int))).take (Int.toNat x8.1 - Int.toNat (0 : Int))).length + (ofB ([IntKind.u8.wrap x13.1])).length ≤ 4294967296 then
(if (((p1.drop (Int.toNat (0 : Int))).take (Int.toNat x8.1 - Int.toNat (0 : Int))) ++ (ofB ([IntKind.u8.wrap x13.1]))).length + ((p1.drop (Int.toNat x8.1)).take (Int.toNat (p1.length : Int) - Int.toNat x8.1)).length ≤ 4294967296 then
some (((((p1.drop (Int.toNat (0 : Int))).take (Int.toNat x8.1 - Int.toNat (0 : Int))) ++ (ofB ([IntKind.u8.wrap x13.1]))) ++ ((p1.drop (Int.toNat x8.1)).take (Int.toNat (p1.length : Int) - Int.toNat x8.1))), x13.2)
else none)
else none))
else none)
else none)
else
(if (x11.1 == 2) = true then
(if 0 ≤ ((0 : Int) : Int) ∧ ((0 : Int) : Int) ≤ (x8.1 : Int) ∧ (x8.1 : Int) ≤ (p1.length : Int) then
(if 0 ≤ (IntKind.i64.wrap (x8.1 + 1) : Int) ∧ (IntKind.i64.wrap (x8.1 + 1) : Int) ≤ ((p1.length : Int) : Int) ∧ ((p1.length : Int) : Int) ≤ (p1.length : Int) then
((gen_Maker_Next p0_0 x11.2 10).bind fun x17 =>
(if ((p1.drop (Int.toNat (0 : Int))).take (Int.toNat x8.1 - Int.toNat (0 : Int))).length + (ofB ([IntKind.u8.wrap (IntKind.i64.wrap (48 + x17.1))])).length ≤ 4294967296 then
(if (((p1.drop (Int.toNat (0 : Int))).take (Int.toNat x8.1 - Int.toNat (0 : Int))) ++ (ofB ([IntKind.u8.wrap (IntKind.i64.wrap (48 + x17.1))]))).length + ((p1.drop (Int.toNat (IntKind.i64.wrap (x8.1 + 1)))).take (Int.toNat (p1.length : Int) - Int.toNat (IntKind.i64.wrap (x8.1 + 1)))).length ≤ 4294967296 then
some (((((p1.drop (Int.toNat (0 : Int))).take (Int.toNat x8.1 - Int.toNat (0 : Int))) ++ (ofB ([IntKind.u8.wrap (IntKind.i64.wrap (48 + x17.1))]))) ++ ((p1.drop (Int.toNat (IntKind.i64.wrap (x8.1 + 1)))).take (Int.toNat (p1.length : Int) - Int.toNat (IntKind.i64.wrap (x8.1 + 1))))), x17.2)
else none)
else none))
else none)
else none)
else
(if 0 ≤ ((0 : Int) : Int) ∧ ((0 : Int) : Int) ≤ (x8.1 : Int) ∧ (x8.1 : Int) ≤ (p1.length : Int) then
(if 0 ≤ (IntKind.i64.wrap (x8.1 + 1) : Int) ∧ (IntKind.i64.wrap (x8.1 + 1) : Int) ≤ ((p1.length : Int) : Int) ∧ ((p1.length : Int) : Int) ≤ (p1.length : Int) then
((gen_Maker_Next p0_0 x11.2 256).bind fun x21 =>
(if ((p1.drop (Int.toNat (0 : Int))).take (Int.toNat x8.1 - Int.toNat (0 : Int))).length + (ofB ([IntKind.u8.wrap x21.1])).length ≤ 4294967296 then
(if (((p1.drop (Int.toNat (0 : Int))).take (Int.toNat x8.1 - Int.toNat (0 : Int))) ++ (ofB ([IntKind.u8.wrap x21.1]))).length + ((p1.drop (Int.toNat (IntKind.i64.wrap (x8.1 + 1)))).take (Int.toNat (p1.length : Int) - Int.toNat (IntKind.i64.wrap (x8.1 + 1)))).length ≤ 4294967296 then
some (((((p1.drop (Int.toNat (0 : Int))).take (Int.toNat x8.1 - Int.toNat (0 : Int))) ++ (ofB ([IntKind.u8.wrap x21.1]))) ++ ((p1.drop (Int.toNat (IntKind.i64.wrap (x8.1 + 1)))).take (Int.toNat (p1.length : Int) - Int.toNat (IntKind.i64.wrap (x8.1 + 1))))), x21.2)
else none)
else none))
else none)
else none)))))))

theorem gen_Maker_Spoil_w (b_p0 : Nat) (a_p0_0 : Option Addr) (c_p0_0 : Nat) (p0_0 : List Int) (p0_1 : Int) (p1 : List UInt8) (r : (List UInt8) × Int) (w : World) (M : List Nat) (hms : MS w [[b_p0], M]) (hs_p0_0 : SlR (eInt .i64) w (fl [[b_p0], M]) a_p0_0 c_p0_0 p0_0) (hb_p0 : w.heap[b_p0]? = some (.cells #[.slice a_p0_0 (p0_0).length c_p0_0, Vi p0_1] 43 (0, 0))) (h : gen_Maker_Spoil p0_0 p0_1 p1 = some r) : CallVC Try.prog 18 [Vp b_p0 0, Vs p1] w fun v w' => v = Vs r.1 ∧ Ev [b_p0] w w' ∧ w'.heap[b_p0]? = some (.cells #[.slice a_p0_0 (p0_0).length c_p0_0, Vi r.2] 43 (0, 0)) := by
 refine calls_vc hmx Try.func18 (by kernel_rfl) rfl (rs := [.tmp 4]) rfl (by kernel_rfl) (args := [Vp b_p0 0, Vs p1]) rfl ?_
 have hev : Ev [b_p0] w w := Ev.refl _ _
 have hfr : FR w.heap.size [] := FR.nil _
 refine c_sp ?_
 refine x_pure 1 [(4, Vs ([] : List UInt8))] _ _ _ (by kernel_rfl) ?_
 refine x_ek ?_
 refine c_seq ?_
 refine c_sp ?_
 refine x_pure 1 [(6, Vs p1)] _ _ _ (by kernel_rfl) ?_
 refine x_binop (.bool (p1 == ([] : List UInt8))) (Vs p1) (Vs ([] : List UInt8)) rfl rfl rfl rfl (bin_seq) ?_
 refine x_ek ?_
 refine c_cond (p1 == ([] : List UInt8)) rfl (fun hb => ?_) (fun hb => ?_)
 · replace h := ite_t hb h
   refine c_sp ?_
   refine x_pure 1 [(8, Vp b_p0 0)] _ _ _ (by kernel_rfl) ?_
   obtain ⟨x4, hx, h⟩ := bind_some h
   have hpk : MS w ([[b_p0]] ++ [M]) := hms.pick [some 0, some 1] _ rfl
   have hsb0 : ∀ x ∈ fl ([[b_p0]] ++ [M]), x ∈ fl [[b_p0], M] := pick_sub [some 0, some 1] _ rfl
   have hsb : ∀ x ∈ fl ([[b_p0]] ++ [(fl [M])]), x ∈ fl [[b_p0], M] := fun x hx => hsb0 x (fl_unfold x hx)
   have hcall := gen_Maker_Next_w b_p0 a_p0_0 c_p0_0 p0_0 p0_1 256 _ w (fl [M]) (hpk.fold (P := [[b_p0]])) (hs_p0_0.sub hsb) hb_p0 hx
   refine x_call 15 #[] #[] [Vp b_p0 0, Vi 256] _ rfl rfl rfl rfl hcall ?_
   rintro v w5 ⟨rfl, he5, hp5_0⟩
   clear hcall hx
   refine inl1 ?_
   have hpk2 : MS w ([[b_p0]] ++ [M]) := hms.pick [some 0, some 1] _ rfl
   have hsb2 : ∀ x ∈ fl ([[b_p0]] ++ [M]), x ∈ fl [[b_p0], M] := pick_sub [some 0, some 1] _ rfl
   have hst0 := Stp.call (LS := [[b_p0], M]) (res := []) (par := [[b_p0]]) (R := [M]) he5 (fun b hb => hsb2 b (fl_left' (P := [[b_p0]]) b hb)) (FR.nil _) (NP.init _ _) (fun x hx => hsb2 x (fl_right' (P := [[b_p0]]) x hx))
   have hsn : ∀ x ∈ fl [[b_p0], M], x ∈ fl ([] ++ ([[b_p0]] ++ [M])) := pick_sub [some 0, some 1] _ rfl
   have hst := hst0.res hsn
   replace hs_p0_0 := hs_p0_0.step hst
   replace hms := hms.ev he5
   replace hev := hev.then he5 (fun b hb => .inl (by simpa using hb))
   replace hb_p0 := hp5_0
   clear hpk hsb hsb0 hpk2 hsb2 hst0 hsn hst
   refine x_convert (.int .u8 (IntKind.u8.wrap x4.1)) _ rfl rfl rfl (tcv3_5 x4.1 _) ?_
   refine inl1 ?_
   refine x_buildSlice (vs := [(0, .int .u8 (IntKind.u8.wrap x4.1))]) #[.int .u8 (IntKind.u8.wrap x4.1)] 5 rfl rfl rfl (by kernel_rfl) (fun b6 w6 hq6 hb6 he6 hz6 => ?_)
   refine inl1 ?_
   have hms0 := hms
   have hst := Stp.ext (ls := [[b_p0], M]) he6
   replace hs_p0_0 := hs_p0_0.step hst
   replace hb_p0 := he6.box hb_p0 nn
   replace hms := hms.ev he6
   replace hev := hev.ext he6
   have hs6 : SlR (eInt .u8) w6 (fl [[b_p0], M]) (Ad b6 0) 1 ([IntKind.u8.wrap x4.1]) := ro_of_box hms0 hq6 hb6 rfl rfl (cells_at (cs := [.int .u8 (IntKind.u8.wrap x4.1)]) (CellsOf.cons (c := [.int .u8 (IntKind.u8.wrap x4.1)]) rfl CellsOf.nil))
   clear hb6 hms0
   refine x_convert (xv := .slice (Ad b6 0) ([IntKind.u8.wrap x4.1]).length 1) (Vs (ofB ([IntKind.u8.wrap x4.1]))) _ rfl rfl rfl (run_ofB tuns26 tint5 tstr9 hs6) ?_
   refine inl1 ?_
   refine x_pure 1 [(4, Vs (ofB ([IntKind.u8.wrap x4.1])))] _ _ _ (by kernel_rfl) ?_
   refine x_ek ?_
   refine c_ret ?_
   refine k_then_ret ?_
   refine r_ret (r_vals [Vs (ofB ([IntKind.u8.wrap x4.1]))] ⟨rfl, trivial⟩ ?_)
   have hx := some_inj h
   subst hx
   have hmr : MS w6 [[b_p0], M] := hms.pick [some 0, some 1] _ rfl
   have hsu : ∀ x ∈ fl [[b_p0], M], x ∈ fl [[b_p0], M] := pick_sub [some 0, some 1] _ rfl
   exact ⟨rfl, hev, hb_p0⟩
 replace h := ite_f hb h
 refine c_skip ?_
 refine k_then ?_
 refine c_sp ?_
 refine x_pure 2 [(13, Vp b_p0 0), (14, Vs p1)] _ _ _ (by kernel_rfl) ?_
 refine x_len (vs := [Vs p1]) (Vi (p1.length : Int)) rfl rfl rfl (reads_slen tstr9 _) ?_
 obtain ⟨x8, hx, h⟩ := bind_some h
 have hpk : MS w ([[b_p0]] ++ [M]) := hms.pick [some 0, some 1] _ rfl
 have hsb0 : ∀ x ∈ fl ([[b_p0]] ++ [M]), x ∈ fl [[b_p0], M] := pick_sub [some 0, some 1] _ rfl
 have hsb : ∀ x ∈ fl ([[b_p0]] ++ [(fl [M])]), x ∈ fl [[b_p0], M] := fun x hx => hsb0 x (fl_unfold x hx)
 have hcall := gen_Maker_Next_w b_p0 a_p0_0 c_p0_0 p0_0 p0_1 (p1.length : Int) _ w (fl [M]) (hpk.fold (P := [[b_p0]])) (hs_p0_0.sub hsb) hb_p0 hx
 refine x_call 15 #[] #[] [Vp b_p0 0, Vi (p1.length : Int)] _ rfl rfl rfl rfl hcall ?_
 rintro v w9 ⟨rfl, he9, hp9_0⟩
 clear hcall hx
 refine inl1 ?_
 have hpk2 : MS w ([[b_p0]] ++ [M]) := hms.pick [some 0, some 1] _ rfl
 have hsb2 : ∀ x ∈ fl ([[b_p0]] ++ [M]), x ∈ fl [[b_p0], M] := pick_sub [some 0, some 1] _ rfl
 have hst0 := Stp.call (LS := [[b_p0], M]) (res := []) (par := [[b_p0]]) (R := [M]) he9 (fun b hb => hsb2 b (fl_left' (P := [[b_p0]]) b hb)) (FR.nil _) (NP.init _ _) (fun x hx => hsb2 x (fl_right' (P := [[b_p0]]) x hx))
 have hsn : ∀ x ∈ fl [[b_p0], M], x ∈ fl ([] ++ ([[b_p0]] ++ [M])) := pick_sub [some 0, some 1] _ rfl
 have hst := hst0.res hsn
 replace hs_p0_0 := hs_p0_0.step hst
 replace hms := hms.ev he9
 replace hev := hev.then he9 (fun b hb => .inl (by simpa using hb))
 replace hb_p0 := hp9_0
 clear hpk hsb hsb0 hpk2 hsb2 hst0 hsn hst
 refine x_pure 1 [(5, Vi x8.1)] _ _ _ (by kernel_rfl) ?_
 refine x_ek ?_
 refine c_seq ?_
 refine c_sp ?_
 refine x_pure 1 [(17, Vp b_p0 0)] _ _ _ (by kernel_rfl) ?_
 obtain ⟨x11, hx, h⟩ := bind_some h
 have hpk : MS w9 ([[b_p0]] ++ [M]) := hms.pick [some 0, some 1] _ rfl
 have hsb0 : ∀ x ∈ fl ([[b_p0]] ++ [M]), x ∈ fl [[b_p0], M] := pick_sub [some 0, some 1] _ rfl
 have hsb : ∀ x ∈ fl ([[b_p0]] ++ [(fl [M])]), x ∈ fl [[b_p0], M] := fun x hx => hsb0 x (fl_unfold x hx)
 have hcall := gen_Maker_Next_w b_p0 a_p0_0 c_p0_0 p0_0 x8.2 4 _ w9 (fl [M]) (hpk.fold (P := [[b_p0]])) (hs_p0_0.sub hsb) hb_p0 hx
 refine x_call 15 #[] #[] [Vp b_p0 0, Vi 4] _ rfl rfl rfl rfl hcall ?_
 rintro v w12 ⟨rfl, he12, hp12_0⟩
 clear hcall hx
 refine inl1 ?_
 have hpk2 : MS w9 ([[b_p0]] ++ [M]) := hms.pick [some 0, some 1] _ rfl
 have hsb2 : ∀ x ∈ fl ([[b_p0]] ++ [M]), x ∈ fl [[b_p0], M] := pick_sub [some 0, some 1] _ rfl
 have hst0 := Stp.call (LS := [[b_p0], M]) (res := []) (par := [[b_p0]]) (R := [M]) he12 (fun b hb => hsb2 b (fl_left' (P := [[b_p0]]) b hb)) (FR.nil _) (NP.init _ _) (fun x hx => hsb2 x (fl_right' (P := [[b_p0]]) x hx))
 have hsn : ∀ x ∈ fl [[b_p0], M], x ∈ fl ([] ++ ([[b_p0]] ++ [M])) := pick_sub [some 0, some 1] _ rfl
 have hst := hst0.res hsn
 replace hs_p0_0 := hs_p0_0.step hst
 replace hms := hms.ev he12
 replace hev := hev.then he12 (fun b hb => .inl (by simpa using hb))
 replace hb_p0 := hp12_0
 clear hpk hsb hsb0 hpk2 hsb2 hst0 hsn hst
 refine x_ek ?_
 refine c_block ?_
 refine c_sp ?_
 refine x_pure 2 [(20, .bool (x11.1 == 0)), (19, .bool (x11.1 == 0))] _ _ _ (by kernel_rfl) ?_
 refine x_ek ?_
 refine c_cond (x11.1 == 0) rfl (fun hb => ?_) (fun hb => ?_)
 · replace h := ite_t hb h
   refine c_seq ?_
   refine c_drawn [] [(0, false), (1, false), (2, false), (3, false), (4, false), (5, false), (6, false), (7, false), (8, false)] _ (by kernel_rfl) rfl ?_
   have hst := Stp.ext (ls := [[b_p0], M]) (Ev.drew w12)
   replace hs_p0_0 := hs_p0_0.step hst
   replace hb_p0 := (Ev.drew w12).box hb_p0 nn
   replace hms := hms.ev (Ev.drew w12)
   replace hev := hev.ext (Ev.drew w12)
   refine x_pure 2 [(21, Vs p1), (22, Vi x8.1)] _ _ _ (by kernel_rfl) ?_
   have hg := guard_l h
   replace h := guard_r h
   refine x_slice (xv := Vs p1) (lv := none) (hv := (some (Vi x8.1))) (mv := none) (Vs ((p1.drop (Int.toNat (0 : Int))).take (Int.toNat x8.1 - Int.toNat (0 : Int)))) rfl rfl rfl rfl rfl rfl (reads_scut tstr9 _ none (some x8.1) hg) ?_
   refine x_pure 3 [(24, Vs p1), (25, Vi x8.1), (26, Vi (IntKind.i64.wrap (x8.1 + 1)))] _ _ _ (by kernel_rfl) ?_
   have hg := guard_l h
   replace h := guard_r h
   refine x_slice (xv := Vs p1) (lv := (some (Vi (IntKind.i64.wrap (x8.1 + 1))))) (hv := none) (mv := none) (Vs ((p1.drop (Int.toNat (IntKind.i64.wrap (x8.1 + 1)))).take (Int.toNat (p1.length : Int) - Int.toNat (IntKind.i64.wrap (x8.1 + 1))))) rfl rfl rfl rfl rfl rfl (reads_scut tstr9 _ (some (IntKind.i64.wrap (x8.1 + 1))) none hg) ?_
   refine x_binop (Vs (((p1.drop (Int.toNat (0 : Int))).take (Int.toNat x8.1 - Int.toNat (0 : Int))) ++ ((p1.drop (Int.toNat (IntKind.i64.wrap (x8.1 + 1)))).take (Int.toNat (p1.length : Int) - Int.toNat (IntKind.i64.wrap (x8.1 + 1)))))) (Vs ((p1.drop (Int.toNat (0 : Int))).take (Int.toNat x8.1 - Int.toNat (0 : Int)))) (Vs ((p1.drop (Int.toNat (IntKind.i64.wrap (x8.1 + 1)))).take (Int.toNat (p1.length : Int) - Int.toNat (IntKind.i64.wrap (x8.1 + 1))))) rfl rfl rfl rfl (bin_sadd (guard_l h)) ?_
   replace h := guard_r h
   refine x_pure 1 [(4, Vs (((p1.drop (Int.toNat (0 : Int))).take (Int.toNat x8.1 - Int.toNat (0 : Int))) ++ ((p1.drop (Int.toNat (IntKind.i64.wrap (x8.1 + 1)))).take (Int.toNat (p1.length : Int) - Int.toNat (IntKind.i64.wrap (x8.1 + 1))))))] _ _ _ (by kernel_rfl) ?_
   refine x_ek ?_
   refine c_norm [(4, Vs (((p1.drop (Int.toNat (0 : Int))).take (Int.toNat x8.1 - Int.toNat (0 : Int))) ++ ((p1.drop (Int.toNat (IntKind.i64.wrap (x8.1 + 1)))).take (Int.toNat (p1.length : Int) - Int.toNat (IntKind.i64.wrap (x8.1 + 1))))))] ⟨rfl, trivial⟩ (fun J => ?_)
   refine c_ret ?_
   refine k_block_ret ?_
   refine k_then_ret ?_
   refine r_ret (r_vals [Vs (((p1.drop (Int.toNat (0 : Int))).take (Int.toNat x8.1 - Int.toNat (0 : Int))) ++ ((p1.drop (Int.toNat (IntKind.i64.wrap (x8.1 + 1)))).take (Int.toNat (p1.length : Int) - Int.toNat (IntKind.i64.wrap (x8.1 + 1)))))] ⟨rfl, trivial⟩ ?_)
   have hx := some_inj h
   subst hx
   have hmr : MS (w12).drew [[b_p0], M] := hms.pick [some 0, some 1] _ rfl
   have hsu : ∀ x ∈ fl [[b_p0], M], x ∈ fl [[b_p0], M] := pick_sub [some 0, some 1] _ rfl
   exact ⟨rfl, hev, hb_p0⟩
 replace h := ite_f hb h
 refine c_sp ?_
 refine x_pure 2 [(30, .bool (x11.1 == 1)), (29, .bool (x11.1 == 1))] _ _ _ (by kernel_rfl) ?_
 refine x_ek ?_
 refine c_norm [(0, Vp b_p0 0), (1, Vs p1), (5, Vi x8.1), (18, Vi x11.1), (29, .bool (x11.1 == 1))] ⟨rfl, rfl, rfl, rfl, rfl, trivial⟩ (fun J => ?_)
 refine c_cond (x11.1 == 1) rfl (fun hb => ?_) (fun hb => ?_)
 · replace h := ite_t hb h
   refine c_seq ?_
   refine c_drawn [b_p0] [(0, false), (1, false), (2, false), (3, true), (9, false), (10, false), (11, false), (4, false), (5, false), (6, false), (7, false), (8, true), (12, true), (13, true)] _ (by kernel_rfl) rfl ?_
   have hst := Stp.ext (ls := [[b_p0], M]) (Ev.drew w12)
   replace hs_p0_0 := hs_p0_0.step hst
   replace hb_p0 := (Ev.drew w12).box hb_p0 nn
   replace hms := hms.ev (Ev.drew w12)
   replace hev := hev.ext (Ev.drew w12)
   refine x_pure 2 [(31, Vs p1), (32, Vi x8.1)] _ _ _ (by kernel_rfl) ?_
   have hg := guard_l h
   replace h := guard_r h
   refine x_slice (xv := Vs p1) (lv := none) (hv := (some (Vi x8.1))) (mv := none) (Vs ((p1.drop (Int.toNat (0 : Int))).take (Int.toNat x8.1 - Int.toNat (0 : Int)))) rfl rfl rfl rfl rfl rfl (reads_scut tstr9 _ none (some x8.1) hg) ?_
   refine x_pure 3 [(34, Vp b_p0 0), (40, Vs p1), (41, Vi x8.1)] _ _ _ (by kernel_rfl) ?_
   have hg := guard_l h
   replace h := guard_r h
   refine x_slice (xv := Vs p1) (lv := (some (Vi x8.1))) (hv := none) (mv := none) (Vs ((p1.drop (Int.toNat x8.1)).take (Int.toNat (p1.length : Int) - Int.toNat x8.1))) rfl rfl rfl rfl rfl rfl (reads_scut tstr9 _ (some x8.1) none hg) ?_
   obtain ⟨x13, hx, h⟩ := bind_some h
   have hpk : MS (w12).drew ([[b_p0]] ++ [M]) := hms.pick [some 0, some 1] _ rfl
   have hsb0 : ∀ x ∈ fl ([[b_p0]] ++ [M]), x ∈ fl [[b_p0], M] := pick_sub [some 0, some 1] _ rfl
   have hsb : ∀ x ∈ fl ([[b_p0]] ++ [(fl [M])]), x ∈ fl [[b_p0], M] := fun x hx => hsb0 x (fl_unfold x hx)
   have hcall := gen_Maker_Next_w b_p0 a_p0_0 c_p0_0 p0_0 x11.2 256 _ (w12).drew (fl [M]) (hpk.fold (P := [[b_p0]])) (hs_p0_0.sub hsb) hb_p0 hx
   refine x_call 15 #[] #[] [Vp b_p0 0, Vi 256] _ rfl rfl rfl rfl hcall ?_
   rintro v w14 ⟨rfl, he14, hp14_0⟩
   clear hcall hx
   refine ⟨.inr he14, ?_⟩
   have hpk2 : MS (w12).drew ([[b_p0]] ++ [M]) := hms.pick [some 0, some 1] _ rfl
   have hsb2 : ∀ x ∈ fl ([[b_p0]] ++ [M]), x ∈ fl [[b_p0], M] := pick_sub [some 0, some 1] _ rfl
   have hst0 := Stp.call (LS := [[b_p0], M]) (res := []) (par := [[b_p0]]) (R := [M]) he14 (fun b hb => hsb2 b (fl_left' (P := [[b_p0]]) b hb)) (FR.nil _) (NP.init _ _) (fun x hx => hsb2 x (fl_right' (P := [[b_p0]]) x hx))
   have hsn : ∀ x ∈ fl [[b_p0], M], x ∈ fl ([] ++ ([[b_p0]] ++ [M])) := pick_sub [some 0, some 1] _ rfl
   have hst := hst0.res hsn
   replace hs_p0_0 := hs_p0_0.step hst
   replace hms := hms.ev he14
   replace hev := hev.then he14 (fun b hb => .inl (by simpa using hb))
   replace hb_p0 := hp14_0
   clear hpk hsb hsb0 hpk2 hsb2 hst0 hsn hst
   refine x_convert (.int .u8 (IntKind.u8.wrap x13.1)) _ rfl rfl rfl (tcv3_5 x13.1 _) ?_
   refine ⟨.inr (Ev.refl _ _), ?_⟩
   refine x_buildSlice (vs := [(0, .int .u8 (IntKind.u8.wrap x13.1))]) #[.int .u8 (IntKind.u8.wrap x13.1)] 5 rfl rfl rfl (by kernel_rfl) (fun b15 w15 hq15 hb15 he15 hz15 => ?_)
   refine ⟨.inr (he15.nil), ?_⟩
   have hms0 := hms
   have hst := Stp.ext (ls := [[b_p0], M]) he15
   replace hs_p0_0 := hs_p0_0.step hst
   replace hb_p0 := he15.box hb_p0 nn
   replace hms := hms.ev he15
   replace hev := hev.ext he15
   have hs15 : SlR (eInt .u8) w15 (fl [[b_p0], M]) (Ad b15 0) 1 ([IntKind.u8.wrap x13.1]) := ro_of_box hms0 hq15 hb15 rfl rfl (cells_at (cs := [.int .u8 (IntKind.u8.wrap x13.1)]) (CellsOf.cons (c := [.int .u8 (IntKind.u8.wrap x13.1)]) rfl CellsOf.nil))
   clear hb15 hms0
   refine x_convert (xv := .slice (Ad b15 0) ([IntKind.u8.wrap x13.1]).length 1) (Vs (ofB ([IntKind.u8.wrap x13.1]))) _ rfl rfl rfl (run_ofB tuns26 tint5 tstr9 hs15) ?_
   refine ⟨.inr (Ev.refl _ _), ?_⟩
   refine x_binop (Vs (((p1.drop (Int.toNat (0 : Int))).take (Int.toNat x8.1 - Int.toNat (0 : Int))) ++ (ofB ([IntKind.u8.wrap x13.1])))) (Vs ((p1.drop (Int.toNat (0 : Int))).take (Int.toNat x8.1 - Int.toNat (0 : Int)))) (Vs (ofB ([IntKind.u8.wrap x13.1]))) rfl rfl rfl rfl (bin_sadd (guard_l h)) ?_
   replace h := guard_r h
   refine x_binop (Vs ((((p1.drop (Int.toNat (0 : Int))).take (Int.toNat x8.1 - Int.toNat (0 : Int))) ++ (ofB ([IntKind.u8.wrap x13.1]))) ++ ((p1.drop (Int.toNat x8.1)).take (Int.toNat (p1.length : Int) - Int.toNat x8.1)))) (Vs (((p1.drop (Int.toNat (0 : Int))).take (Int.toNat x8.1 - Int.toNat (0 : Int))) ++ (ofB ([IntKind.u8.wrap x13.1])))) (Vs ((p1.drop (Int.toNat x8.1)).take (Int.toNat (p1.length : Int) - Int.toNat x8.1))) rfl rfl rfl rfl (bin_sadd (guard_l h)) ?_
   replace h := guard_r h
   refine x_pure 1 [(4, Vs ((((p1.drop (Int.toNat (0 : Int))).take (Int.toNat x8.1 - Int.toNat (0 : Int))) ++ (ofB ([IntKind.u8.wrap x13.1]))) ++ ((p1.drop (Int.toNat x8.1)).take (Int.toNat (p1.length : Int) - Int.toNat x8.1))))] _ _ _ (by kernel_rfl) ?_
   refine x_ek ?_
   refine c_norm [(4, Vs ((((p1.drop (Int.toNat (0 : Int))).take (Int.toNat x8.1 - Int.toNat (0 : Int))) ++ (ofB ([IntKind.u8.wrap x13.1]))) ++ ((p1.drop (Int.toNat x8.1)).take (Int.toNat (p1.length : Int) - Int.toNat x8.1))))] ⟨rfl, trivial⟩ (fun J => ?_)
   refine c_ret ?_
   refine k_block_ret ?_
   refine k_then_ret ?_
   refine r_ret (r_vals [Vs ((((p1.drop (Int.toNat (0 : Int))).take (Int.toNat x8.1 - Int.toNat (0 : Int))) ++ (ofB ([IntKind.u8.wrap x13.1]))) ++ ((p1.drop (Int.toNat x8.1)).take (Int.toNat (p1.length : Int) - Int.toNat x8.1)))] ⟨rfl, trivial⟩ ?_)
   have hx := some_inj h
   subst hx
   have hmr : MS w15 [[b_p0], M] := hms.pick [some 0, some 1] _ rfl
   have hsu : ∀ x ∈ fl [[b_p0], M], x ∈ fl [[b_p0], M] := pick_sub [some 0, some 1] _ rfl
   exact ⟨rfl, hev, hb_p0⟩
 replace h := ite_f hb h
 refine c_sp ?_
 refine x_pure 2 [(45, .bool (x11.1 == 2)), (44, .bool (x11.1 == 2))] _ _ _ (by kernel_rfl) ?_
 refine x_ek ?_
 refine c_cond (x11.1 == 2) rfl (fun hb => ?_) (fun hb => ?_)
 · replace h := ite_t hb h
   refine c_seq ?_
   refine c_drawn [b_p0] [(0, false), (1, false), (2, false), (3, true), (10, false), (11, false), (12, false), (13, false), (4, false), (5, true), (6, false), (7, false), (8, false), (9, true), (14, false), (15, true)] _ (by kernel_rfl) rfl ?_
   have hst := Stp.ext (ls := [[b_p0], M]) (Ev.drew w12)
   replace hs_p0_0 := hs_p0_0.step hst
   replace hb_p0 := (Ev.drew w12).box hb_p0 nn
   replace hms := hms.ev (Ev.drew w12)
   replace hev := hev.ext (Ev.drew w12)
   refine x_pure 2 [(46, Vs p1), (47, Vi x8.1)] _ _ _ (by kernel_rfl) ?_
   have hg := guard_l h
   replace h := guard_r h
   refine x_slice (xv := Vs p1) (lv := none) (hv := (some (Vi x8.1))) (mv := none) (Vs ((p1.drop (Int.toNat (0 : Int))).take (Int.toNat x8.1 - Int.toNat (0 : Int)))) rfl rfl rfl rfl rfl rfl (reads_scut tstr9 _ none (some x8.1) hg) ?_
   refine x_pure 4 [(49, Vp b_p0 0), (56, Vs p1), (57, Vi x8.1), (58, Vi (IntKind.i64.wrap (x8.1 + 1)))] _ _ _ (by kernel_rfl) ?_
   have hg := guard_l h
   replace h := guard_r h
   refine x_slice (xv := Vs p1) (lv := (some (Vi (IntKind.i64.wrap (x8.1 + 1))))) (hv := none) (mv := none) (Vs ((p1.drop (Int.toNat (IntKind.i64.wrap (x8.1 + 1)))).take (Int.toNat (p1.length : Int) - Int.toNat (IntKind.i64.wrap (x8.1 + 1))))) rfl rfl rfl rfl rfl rfl (reads_scut tstr9 _ (some (IntKind.i64.wrap (x8.1 + 1))) none hg) ?_
   obtain ⟨x17, hx, h⟩ := bind_some h
   have hpk : MS (w12).drew ([[b_p0]] ++ [M]) := hms.pick [some 0, some 1] _ rfl
   have hsb0 : ∀ x ∈ fl ([[b_p0]] ++ [M]), x ∈ fl [[b_p0], M] := pick_sub [some 0, some 1] _ rfl
   have hsb : ∀ x ∈ fl ([[b_p0]] ++ [(fl [M])]), x ∈ fl [[b_p0], M] := fun x hx => hsb0 x (fl_unfold x hx)
   have hcall := gen_Maker_Next_w b_p0 a_p0_0 c_p0_0 p0_0 x11.2 10 _ (w12).drew (fl [M]) (hpk.fold (P := [[b_p0]])) (hs_p0_0.sub hsb) hb_p0 hx
   refine x_call 15 #[] #[] [Vp b_p0 0, Vi 10] _ rfl rfl rfl rfl hcall ?_
   rintro v w18 ⟨rfl, he18, hp18_0⟩
   clear hcall hx
   refine ⟨.inr he18, ?_⟩
   have hpk2 : MS (w12).drew ([[b_p0]] ++ [M]) := hms.pick [some 0, some 1] _ rfl
   have hsb2 : ∀ x ∈ fl ([[b_p0]] ++ [M]), x ∈ fl [[b_p0], M] := pick_sub [some 0, some 1] _ rfl
   have hst0 := Stp.call (LS := [[b_p0], M]) (res := []) (par := [[b_p0]]) (R := [M]) he18 (fun b hb => hsb2 b (fl_left' (P := [[b_p0]]) b hb)) (FR.nil _) (NP.init _ _) (fun x hx => hsb2 x (fl_right' (P := [[b_p0]]) x hx))
   have hsn : ∀ x ∈ fl [[b_p0], M], x ∈ fl ([] ++ ([[b_p0]] ++ [M])) := pick_sub [some 0, some 1] _ rfl
   have hst := hst0.res hsn
   replace hs_p0_0 := hs_p0_0.step hst
   replace hms := hms.ev he18
   replace hev := hev.then he18 (fun b hb => .inl (by simpa using hb))
   replace hb_p0 := hp18_0
   clear hpk hsb hsb0 hpk2 hsb2 hst0 hsn hst
   refine x_pure 1 [(51, Vi (IntKind.i64.wrap (48 + x17.1)))] _ _ _ (by kernel_rfl) ?_
   refine x_convert (.int .u8 (IntKind.u8.wrap (IntKind.i64.wrap (48 + x17.1)))) _ rfl rfl rfl (tcv3_5 (IntKind.i64.wrap (48 + x17.1)) _) ?_
   refine ⟨.inr (Ev.refl _ _), ?_⟩
   refine x_buildSlice (vs := [(0, .int .u8 (IntKind.u8.wrap (IntKind.i64.wrap (48 + x17.1))))]) #[.int .u8 (IntKind.u8.wrap (IntKind.i64.wrap (48 + x17.1)))] 5 rfl rfl rfl (by kernel_rfl) (fun b19 w19 hq19 hb19 he19 hz19 => ?_)
   refine ⟨.inr (he19.nil), ?_⟩
   have hms0 := hms
   have hst := Stp.ext (ls := [[b_p0], M]) he19
   replace hs_p0_0 := hs_p0_0.step hst
   replace hb_p0 := he19.box hb_p0 nn
   replace hms := hms.ev he19
   replace hev := hev.ext he19
   have hs19 : SlR (eInt .u8) w19 (fl [[b_p0], M]) (Ad b19 0) 1 ([IntKind.u8.wrap (IntKind.i64.wrap (48 + x17.1))]) := ro_of_box hms0 hq19 hb19 rfl rfl (cells_at (cs := [.int .u8 (IntKind.u8.wrap (IntKind.i64.wrap (48 + x17.1)))]) (CellsOf.cons (c := [.int .u8 (IntKind.u8.wrap (IntKind.i64.wrap (48 + x17.1)))]) rfl CellsOf.nil))
   clear hb19 hms0
   refine x_convert (xv := .slice (Ad b19 0) ([IntKind.u8.wrap (IntKind.i64.wrap (48 + x17.1))]).length 1) (Vs (ofB ([IntKind.u8.wrap (IntKind.i64.wrap (48 + x17.1))]))) _ rfl rfl rfl (run_ofB tuns26 tint5 tstr9 hs19) ?_
   refine ⟨.inr (Ev.refl _ _), ?_⟩
   refine x_binop (Vs (((p1.drop (Int.toNat (0 : Int))).take (Int.toNat x8.1 - Int.toNat (0 : Int))) ++ (ofB ([IntKind.u8.wrap (IntKind.i64.wrap (48 + x17.1))])))) (Vs ((p1.drop (Int.toNat (0 : Int))).take (Int.toNat x8.1 - Int.toNat (0 : Int)))) (Vs (ofB ([IntKind.u8.wrap (IntKind.i64.wrap (48 + x17.1))]))) rfl rfl rfl rfl (bin_sadd (guard_l h)) ?_
   replace h := guard_r h
   refine x_binop (Vs ((((p1.drop (Int.toNat (0 : Int))).take (Int.toNat x8.1 - Int.toNat (0 : Int))) ++ (ofB ([IntKind.u8.wrap (IntKind.i64.wrap (48 + x17.1))]))) ++ ((p1.drop (Int.toNat (IntKind.i64.wrap (x8.1 + 1)))).take (Int.toNat (p1.length : Int) - Int.toNat (IntKind.i64.wrap (x8.1 + 1)))))) (Vs (((p1.drop (Int.toNat (0 : Int))).take (Int.toNat x8.1 - Int.toNat (0 : Int))) ++ (ofB ([IntKind.u8.wrap (IntKind.i64.wrap (48 + x17.1))])))) (Vs ((p1.drop (Int.toNat (IntKind.i64.wrap (x8.1 + 1)))).take (Int.toNat (p1.length : Int) - Int.toNat (IntKind.i64.wrap (x8.1 + 1))))) rfl rfl rfl rfl (bin_sadd (guard_l h)) ?_
   replace h := guard_r h
   refine x_pure 1 [(4, Vs ((((p1.drop (Int.toNat (0 : Int))).take (Int.toNat x8.1 - Int.toNat (0 : Int))) ++ (ofB ([IntKind.u8.wrap (IntKind.i64.wrap (48 + x17.1))]))) ++ ((p1.drop (Int.toNat (IntKind.i64.wrap (x8.1 + 1)))).take (Int.toNat (p1.length : Int) - Int.toNat (IntKind.i64.wrap (x8.1 + 1))))))] _ _ _ (by kernel_rfl) ?_
   refine x_ek ?_
   refine c_norm [(4, Vs ((((p1.drop (Int.toNat (0 : Int))).take (Int.toNat x8.1 - Int.toNat (0 : Int))) ++ (ofB ([IntKind.u8.wrap (IntKind.i64.wrap (48 + x17.1))]))) ++ ((p1.drop (Int.toNat (IntKind.i64.wrap (x8.1 + 1)))).take (Int.toNat (p1.length : Int) - Int.toNat (IntKind.i64.wrap (x8.1 + 1))))))] ⟨rfl, trivial⟩ (fun J => ?_)
   refine c_ret ?_
   refine k_block_ret ?_
   refine k_then_ret ?_
   refine r_ret (r_vals [Vs ((((p1.drop (Int.toNat (0 : Int))).take (Int.toNat x8.1 - Int.toNat (0 : Int))) ++ (ofB ([IntKind.u8.wrap (IntKind.i64.wrap (48 + x17.1))]))) ++ ((p1.drop (Int.toNat (IntKind.i64.wrap (x8.1 + 1)))).take (Int.toNat (p1.length : Int) - Int.toNat (IntKind.i64.wrap (x8.1 + 1)))))] ⟨rfl, trivial⟩ ?_)
   have hx := some_inj h
   subst hx
   have hmr : MS w19 [[b_p0], M] := hms.pick [some 0, some 1] _ rfl
   have hsu : ∀ x ∈ fl [[b_p0], M], x ∈ fl [[b_p0], M] := pick_sub [some 0, some 1] _ rfl
   exact ⟨rfl, hev, hb_p0⟩
 replace h := ite_f hb h
 refine c_skip ?_
 refine k_block ?_
 refine k_then ?_
 refine c_seq ?_
 refine c_drawn [b_p0] [(0, false), (1, false), (2, false), (3, true), (9, false), (10, false), (11, false), (12, false), (4, false), (5, false), (6, false), (7, false), (8, true), (13, true), (14, true)] _ (by kernel_rfl) rfl ?_
 have hst := Stp.ext (ls := [[b_p0], M]) (Ev.drew w12)
 replace hs_p0_0 := hs_p0_0.step hst
 replace hb_p0 := (Ev.drew w12).box hb_p0 nn
 replace hms := hms.ev (Ev.drew w12)
 replace hev := hev.ext (Ev.drew w12)
 refine x_pure 2 [(61, Vs p1), (62, Vi x8.1)] _ _ _ (by kernel_rfl) ?_
 have hg := guard_l h
 replace h := guard_r h
 refine x_slice (xv := Vs p1) (lv := none) (hv := (some (Vi x8.1))) (mv := none) (Vs ((p1.drop (Int.toNat (0 : Int))).take (Int.toNat x8.1 - Int.toNat (0 : Int)))) rfl rfl rfl rfl rfl rfl (reads_scut tstr9 _ none (some x8.1) hg) ?_
 refine x_pure 4 [(64, Vp b_p0 0), (70, Vs p1), (71, Vi x8.1), (72, Vi (IntKind.i64.wrap (x8.1 + 1)))] _ _ _ (by kernel_rfl) ?_
 have hg := guard_l h
 replace h := guard_r h
 refine x_slice (xv := Vs p1) (lv := (some (Vi (IntKind.i64.wrap (x8.1 + 1))))) (hv := none) (mv := none) (Vs ((p1.drop (Int.toNat (IntKind.i64.wrap (x8.1 + 1)))).take (Int.toNat (p1.length : Int) - Int.toNat (IntKind.i64.wrap (x8.1 + 1))))) rfl rfl rfl rfl rfl rfl (reads_scut tstr9 _ (some (IntKind.i64.wrap (x8.1 + 1))) none hg) ?_
 obtain ⟨x21, hx, h⟩ := bind_some h
 have hpk : MS (w12).drew ([[b_p0]] ++ [M]) := hms.pick [some 0, some 1] _ rfl
 have hsb0 : ∀ x ∈ fl ([[b_p0]] ++ [M]), x ∈ fl [[b_p0], M] := pick_sub [some 0, some 1] _ rfl
 have hsb : ∀ x ∈ fl ([[b_p0]] ++ [(fl [M])]), x ∈ fl [[b_p0], M] := fun x hx => hsb0 x (fl_unfold x hx)
 have hcall := gen_Maker_Next_w b_p0 a_p0_0 c_p0_0 p0_0 x11.2 256 _ (w12).drew (fl [M]) (hpk.fold (P := [[b_p0]])) (hs_p0_0.sub hsb) hb_p0 hx
 refine x_call 15 #[] #[] [Vp b_p0 0, Vi 256] _ rfl rfl rfl rfl hcall ?_
 rintro v w22 ⟨rfl, he22, hp22_0⟩
 clear hcall hx
 refine ⟨.inr he22, ?_⟩
 have hpk2 : MS (w12).drew ([[b_p0]] ++ [M]) := hms.pick [some 0, some 1] _ rfl
 have hsb2 : ∀ x ∈ fl ([[b_p0]] ++ [M]), x ∈ fl [[b_p0], M] := pick_sub [some 0, some 1] _ rfl
 have hst0 := Stp.call (LS := [[b_p0], M]) (res := []) (par := [[b_p0]]) (R := [M]) he22 (fun b hb => hsb2 b (fl_left' (P := [[b_p0]]) b hb)) (FR.nil _) (NP.init _ _) (fun x hx => hsb2 x (fl_right' (P := [[b_p0]]) x hx))
 have hsn : ∀ x ∈ fl [[b_p0], M], x ∈ fl ([] ++ ([[b_p0]] ++ [M])) := pick_sub [some 0, some 1] _ rfl
 have hst := hst0.res hsn
 replace hs_p0_0 := hs_p0_0.step hst
 replace hms := hms.ev he22
 replace hev := hev.then he22 (fun b hb => .inl (by simpa using hb))
 replace hb_p0 := hp22_0
 clear hpk hsb hsb0 hpk2 hsb2 hst0 hsn hst
 refine x_convert (.int .u8 (IntKind.u8.wrap x21.1)) _ rfl rfl rfl (tcv3_5 x21.1 _) ?_
 refine ⟨.inr (Ev.refl _ _), ?_⟩
 refine x_buildSlice (vs := [(0, .int .u8 (IntKind.u8.wrap x21.1))]) #[.int .u8 (IntKind.u8.wrap x21.1)] 5 rfl rfl rfl (by kernel_rfl) (fun b23 w23 hq23 hb23 he23 hz23 => ?_)
 refine ⟨.inr (he23.nil), ?_⟩
 have hms0 := hms
 have hst := Stp.ext (ls := [[b_p0], M]) he23
 replace hs_p0_0 := hs_p0_0.step hst
 replace hb_p0 := he23.box hb_p0 nn
 replace hms := hms.ev he23
 replace hev := hev.ext he23
 have hs23 : SlR (eInt .u8) w23 (fl [[b_p0], M]) (Ad b23 0) 1 ([IntKind.u8.wrap x21.1]) := ro_of_box hms0 hq23 hb23 rfl rfl (cells_at (cs := [.int .u8 (IntKind.u8.wrap x21.1)]) (CellsOf.cons (c := [.int .u8 (IntKind.u8.wrap x21.1)]) rfl CellsOf.nil))
 clear hb23 hms0
 refine x_convert (xv := .slice (Ad b23 0) ([IntKind.u8.wrap x21.1]).length 1) (Vs (ofB ([IntKind.u8.wrap x21.1]))) _ rfl rfl rfl (run_ofB tuns26 tint5 tstr9 hs23) ?_
 refine ⟨.inr (Ev.refl _ _), ?_⟩
 refine x_binop (Vs (((p1.drop (Int.toNat (0 : Int))).take (Int.toNat x8.1 - Int.toNat (0 : Int))) ++ (ofB ([IntKind.u8.wrap x21.1])))) (Vs ((p1.drop (Int.toNat (0 : Int))).take (Int.toNat x8.1 - Int.toNat (0 : Int)))) (Vs (ofB ([IntKind.u8.wrap x21.1]))) rfl rfl rfl rfl (bin_sadd (guard_l h)) ?_
 replace h := guard_r h
 refine x_binop (Vs ((((p1.drop (Int.toNat (0 : Int))).take (Int.toNat x8.1 - Int.toNat (0 : Int))) ++ (ofB ([IntKind.u8.wrap x21.1]))) ++ ((p1.drop (Int.toNat (IntKind.i64.wrap (x8.1 + 1)))).take (Int.toNat (p1.length : Int) - Int.toNat (IntKind.i64.wrap (x8.1 + 1)))))) (Vs (((p1.drop (Int.toNat (0 : Int))).take (Int.toNat x8.1 - Int.toNat (0 : Int))) ++ (ofB ([IntKind.u8.wrap x21.1])))) (Vs ((p1.drop (Int.toNat (IntKind.i64.wrap (x8.1 + 1)))).take (Int.toNat (p1.length : Int) - Int.toNat (IntKind.i64.wrap (x8.1 + 1))))) rfl rfl rfl rfl (bin_sadd (guard_l h)) ?_
 replace h := guard_r h
 refine x_pure 1 [(4, Vs ((((p1.drop (Int.toNat (0 : Int))).take (Int.toNat x8.1 - Int.toNat (0 : Int))) ++ (ofB ([IntKind.u8.wrap x21.1]))) ++ ((p1.drop (Int.toNat (IntKind.i64.wrap (x8.1 + 1)))).take (Int.toNat (p1.length : Int) - Int.toNat (IntKind.i64.wrap (x8.1 + 1))))))] _ _ _ (by kernel_rfl) ?_
 refine x_ek ?_
 refine c_norm [(4, Vs ((((p1.drop (Int.toNat (0 : Int))).take (Int.toNat x8.1 - Int.toNat (0 : Int))) ++ (ofB ([IntKind.u8.wrap x21.1]))) ++ ((p1.drop (Int.toNat (IntKind.i64.wrap (x8.1 + 1)))).take (Int.toNat (p1.length : Int) - Int.toNat (IntKind.i64.wrap (x8.1 + 1))))))] ⟨rfl, trivial⟩ (fun J => ?_)
 refine c_ret ?_
 refine r_ret (r_vals [Vs ((((p1.drop (Int.toNat (0 : Int))).take (Int.toNat x8.1 - Int.toNat (0 : Int))) ++ (ofB ([IntKind.u8.wrap x21.1]))) ++ ((p1.drop (Int.toNat (IntKind.i64.wrap (x8.1 + 1)))).take (Int.toNat (p1.length : Int) - Int.toNat (IntKind.i64.wrap (x8.1 + 1)))))] ⟨rfl, trivial⟩ ?_)
 have hx := some_inj h
 subst hx
 have hmr : MS w23 [[b_p0], M] := hms.pick [some 0, some 1] _ rfl
 have hsu : ∀ x ∈ fl [[b_p0], M], x ∈ fl [[b_p0], M] := pick_sub [some 0, some 1] _ rfl
 exact ⟨rfl, hev, hb_p0⟩
end Go.Proofs.Yteimkmjnjnaifaa
