/- Walks, printed by program: each function returns what the partial function of the same name returns. Conditions: those of each theorem. -/
import Derived.Test.YtdjadgodphfihaaGT
import Derived.Test.YtdjadgodphfihaaGgen
set_option linter.unusedVariables false
set_option linter.unusedSimpArgs false
set_option maxRecDepth 4000
namespace Go.Proofs.Ytdjadgodphfihaa
open Go Go.V Go.Proofs
def law41_made_L22 (p0_0 : List Int) (x5 : Int × Int) (s : Int × (List Int) × Int) : Option (Step (Int × (List Int) × Int) (Int × (List Int))) :=
match s with
| (e2_l22_1, d24_l22, i_s5_l22) =>
(if (decide (i_s5_l22 > 0)) = true then
((gen_Maker_Next p0_0 e2_l22_1 120).bind fun x26 =>
(if d24_l22.length + ([if (IntKind.i64.wrap ((IntKind.i64.wrap (x5.1 - 30)) + x26.1)) > 0 then (IntKind.i64.wrap ((IntKind.i64.wrap (x5.1 - 30)) + x26.1)) else 0]).length ≤ 4294967296 then
some (.next (x26.2, (d24_l22 ++ [if (IntKind.i64.wrap ((IntKind.i64.wrap (x5.1 - 30)) + x26.1)) > 0 then (IntKind.i64.wrap ((IntKind.i64.wrap (x5.1 - 30)) + x26.1)) else 0]), IntKind.i64.wrap (i_s5_l22 - 1)))
else none))
else
some (.done (e2_l22_1, d24_l22)))

def law41_made (p0_0 : List Int) (p0_1 : Int) : Option ((Int × Int × (List Int) × Int × Int) × Int) :=
((gen_Maker_Next p0_0 p0_1 200).bind fun x5 =>
((gen_Maker_Next p0_0 x5.2 60).bind fun x7 =>
((gen_Maker_Pick p0_0 x7.2 ([0, 1, 2, 7])).bind fun x11 =>
((gen_Maker_Pick p0_0 x11.2 ([0, 1, 10, 30, 100])).bind fun x15 =>
((gen_Maker_Next p0_0 x15.2 9).bind fun x20 =>
((loop (law41_made_L22 p0_0 x5) (x20.2, ([] : List Int), x20.1)).bind fun d => match d with
| (e2_x22_1, d24_x22) => some ((x5.1, IntKind.i64.wrap (x5.1 + x7.1), d24_x22, x11.1, x15.1), e2_x22_1)))))))

theorem law41_made_w (b_p0 : Nat) (a_p0_0 : Option Addr) (c_p0_0 : Nat) (p0_0 : List Int) (p0_1 : Int) (r : (Int × Int × (List Int) × Int × Int) × Int) (w : World) (M : List Nat) (hms : MS w [[b_p0], M]) (hs_p0_0 : SlR (eInt .i64) w (fl [[b_p0], M]) a_p0_0 c_p0_0 p0_0) (hb_p0 : w.heap[b_p0]? = some (.cells #[.slice a_p0_0 (p0_0).length c_p0_0, Vi p0_1] 45 (0, 0))) (h : law41_made p0_0 p0_1 = some r) : CallVC Try.prog 8 [Vp b_p0 0] w fun v w' => ∃ (a0' : Option Addr), ∃ (c0' : Nat), v = .agg #[Vi r.1.1, Vi r.1.2.1, .slice a0' (r.1.2.2.1).length c0', Vi r.1.2.2.2.1, Vi r.1.2.2.2.2] ∧ Ev [b_p0] w w' ∧ w'.heap[b_p0]? = some (.cells #[.slice a_p0_0 (p0_0).length c_p0_0, Vi r.2] 45 (0, 0)) ∧ MS w' [blk a0', [b_p0], M] ∧ FR w.heap.size [blk a0'] ∧ OwnS (eInt .i64) 3 w' (fl [blk a0', [b_p0], M]) a0' c0' r.1.2.2.1 := by
 refine calls_vc hmx Try.func8 (by kernel_rfl) rfl (rs := [.cell 2 24]) rfl (by kernel_rfl) (args := [Vp b_p0 0]) rfl ?_
 have hev : Ev [b_p0] w w := Ev.refl _ _
 have hfr : FR w.heap.size [] := FR.nil _
 refine c_sp ?_
 refine x_alloc (z := .agg #[Vi 0, Vi 0, .slice none 0 0, Vi 0, Vi 0]) rfl rfl (by kernel_rfl) (fun b3 w3 hq3 hb3 he3 hz3 => ?_)
 replace hb3 : w3.heap[b3]? = some (.cells #[Vi 0, Vi 0, .slice none 0 0, Vi 0, Vi 0] 24 (0, 0)) := hb3
 refine inl1 ?_
 have hst := Stp.box (ls := [[b_p0], M]) he3 hq3
 replace hs_p0_0 := hs_p0_0.step hst
 replace hb_p0 := he3.box hb_p0 nn
 replace hms := hms.box he3 hq3 hb3
 replace hfr := hfr.box hev.size hq3
 replace hev := hev.ext he3
 refine x_ek ?_
 refine c_sp ?_
 refine x_pure 1 [(6, Vp b_p0 0)] _ _ _ (by kernel_rfl) ?_
 obtain ⟨x5, hx, h⟩ := bind_some h
 have hpk : MS w3 ([[b_p0]] ++ [[b3], M]) := hms.pick [some 1, some 0, some 2] _ rfl
 have hsb0 : ∀ x ∈ fl ([[b_p0]] ++ [[b3], M]), x ∈ fl [[b3], [b_p0], M] := pick_sub [some 1, some 0, some 2] _ rfl
 have hsb : ∀ x ∈ fl ([[b_p0]] ++ [(fl [[b3], M])]), x ∈ fl [[b3], [b_p0], M] := fun x hx => hsb0 x (fl_unfold x hx)
 have hcall := gen_Maker_Next_w b_p0 a_p0_0 c_p0_0 p0_0 p0_1 200 _ w3 (fl [[b3], M]) (hpk.fold (P := [[b_p0]])) (hs_p0_0.sub hsb) hb_p0 hx
 refine x_call 11 #[] #[] [Vp b_p0 0, Vi 200] _ rfl rfl rfl rfl hcall ?_
 rintro v w6 ⟨rfl, he6, hp6_0⟩
 clear hcall hx
 refine inl1 ?_
 have hpk2 : MS w3 ([[b_p0]] ++ [[b3], M]) := hms.pick [some 1, some 0, some 2] _ rfl
 have hsb2 : ∀ x ∈ fl ([[b_p0]] ++ [[b3], M]), x ∈ fl [[b3], [b_p0], M] := pick_sub [some 1, some 0, some 2] _ rfl
 have hst0 := Stp.call (LS := [[b3], [b_p0], M]) (res := []) (par := [[b_p0]]) (R := [[b3], M]) he6 (fun b hb => hsb2 b (fl_left' (P := [[b_p0]]) b hb)) (FR.nil _) (NP.init _ _) (fun x hx => hsb2 x (fl_right' (P := [[b_p0]]) x hx))
 have hsn : ∀ x ∈ fl [[b3], [b_p0], M], x ∈ fl ([] ++ ([[b_p0]] ++ [[b3], M])) := pick_sub [some 1, some 0, some 2] _ rfl
 have hst := hst0.res hsn
 replace hs_p0_0 := hs_p0_0.step hst
 replace hb3 := he6.box hb3 ((MS.outs (P := [[b_p0]]) hpk2 0 rfl) _ mem1)
 replace hms := hms.ev he6
 replace hev := hev.then he6 (fun b hb => .inl (by simpa using hb))
 replace hb_p0 := hp6_0
 clear hpk hsb hsb0 hpk2 hsb2 hst0 hsn hst
 refine x_pure 1 [(3, Vi x5.1)] _ _ _ (by kernel_rfl) ?_
 refine x_ek ?_
 refine c_sp ?_
 refine x_pure 3 [(8, Vi x5.1), (9, Vi x5.1), (10, Vp b_p0 0)] _ _ _ (by kernel_rfl) ?_
 obtain ⟨x7, hx, h⟩ := bind_some h
 have hpk : MS w6 ([[b_p0]] ++ [[b3], M]) := hms.pick [some 1, some 0, some 2] _ rfl
 have hsb0 : ∀ x ∈ fl ([[b_p0]] ++ [[b3], M]), x ∈ fl [[b3], [b_p0], M] := pick_sub [some 1, some 0, some 2] _ rfl
 have hsb : ∀ x ∈ fl ([[b_p0]] ++ [(fl [[b3], M])]), x ∈ fl [[b3], [b_p0], M] := fun x hx => hsb0 x (fl_unfold x hx)
 have hcall := gen_Maker_Next_w b_p0 a_p0_0 c_p0_0 p0_0 x5.2 60 _ w6 (fl [[b3], M]) (hpk.fold (P := [[b_p0]])) (hs_p0_0.sub hsb) hb_p0 hx
 refine x_call 11 #[] #[] [Vp b_p0 0, Vi 60] _ rfl rfl rfl rfl hcall ?_
 rintro v w8 ⟨rfl, he8, hp8_0⟩
 clear hcall hx
 refine inl1 ?_
 have hpk2 : MS w6 ([[b_p0]] ++ [[b3], M]) := hms.pick [some 1, some 0, some 2] _ rfl
 have hsb2 : ∀ x ∈ fl ([[b_p0]] ++ [[b3], M]), x ∈ fl [[b3], [b_p0], M] := pick_sub [some 1, some 0, some 2] _ rfl
 have hst0 := Stp.call (LS := [[b3], [b_p0], M]) (res := []) (par := [[b_p0]]) (R := [[b3], M]) he8 (fun b hb => hsb2 b (fl_left' (P := [[b_p0]]) b hb)) (FR.nil _) (NP.init _ _) (fun x hx => hsb2 x (fl_right' (P := [[b_p0]]) x hx))
 have hsn : ∀ x ∈ fl [[b3], [b_p0], M], x ∈ fl ([] ++ ([[b_p0]] ++ [[b3], M])) := pick_sub [some 1, some 0, some 2] _ rfl
 have hst := hst0.res hsn
 replace hs_p0_0 := hs_p0_0.step hst
 replace hb3 := he8.box hb3 ((MS.outs (P := [[b_p0]]) hpk2 0 rfl) _ mem1)
 replace hms := hms.ev he8
 replace hev := hev.then he8 (fun b hb => .inl (by simpa using hb))
 replace hb_p0 := hp8_0
 clear hpk hsb hsb0 hpk2 hsb2 hst0 hsn hst
 refine x_pure 2 [(12, Vi (IntKind.i64.wrap (x5.1 + x7.1))), (13, Vp b_p0 0)] _ _ _ (by kernel_rfl) ?_
 refine x_buildSlice (vs := [(0, Vi 0), (1, Vi 1), (2, Vi 2), (3, Vi 7)]) #[Vi 0, Vi 1, Vi 2, Vi 7] 3 rfl rfl rfl (by kernel_rfl) (fun b9 w9 hq9 hb9 he9 hz9 => ?_)
 refine inl1 ?_
 have hms0 := hms
 have hst := Stp.ext (ls := [[b3], [b_p0], M]) he9
 replace hs_p0_0 := hs_p0_0.step hst
 replace hb_p0 := he9.box hb_p0 nn
 replace hb3 := he9.box hb3 nn
 replace hms := hms.ev he9
 replace hev := hev.ext he9
 have hs9 : SlR (eInt .i64) w9 (fl [[b3], [b_p0], M]) (Ad b9 0) 4 ([0, 1, 2, 7]) := ro_of_box hms0 hq9 hb9 rfl rfl (cells_at (cs := [Vi 0, Vi 1, Vi 2, Vi 7]) (CellsOf.cons (c := [Vi 0]) rfl (CellsOf.cons (c := [Vi 1]) rfl (CellsOf.cons (c := [Vi 2]) rfl (CellsOf.cons (c := [Vi 7]) rfl CellsOf.nil)))))
 clear hb9 hms0
 obtain ⟨x11, hx, h⟩ := bind_some h
 have hpk : MS w9 ([[b_p0]] ++ [[b3], M]) := hms.pick [some 1, some 0, some 2] _ rfl
 have hsb0 : ∀ x ∈ fl ([[b_p0]] ++ [[b3], M]), x ∈ fl [[b3], [b_p0], M] := pick_sub [some 1, some 0, some 2] _ rfl
 have hsb : ∀ x ∈ fl ([[b_p0]] ++ [(fl [[b3], M])]), x ∈ fl [[b3], [b_p0], M] := fun x hx => hsb0 x (fl_unfold x hx)
 have hcall := gen_Maker_Pick_w b_p0 a_p0_0 c_p0_0 p0_0 x7.2 (Ad b9 0) 4 ([0, 1, 2, 7]) _ w9 (fl [[b3], M]) (hpk.fold (P := [[b_p0]])) (hs_p0_0.sub hsb) hb_p0 (hs9.sub hsb) hx
 refine x_call 9 #[] #[] [Vp b_p0 0, .slice (Ad b9 0) ([0, 1, 2, 7]).length 4] _ rfl rfl rfl rfl hcall ?_
 rintro v w12 ⟨rfl, he12, hp12_0⟩
 clear hcall hx
 refine inl1 ?_
 have hpk2 : MS w9 ([[b_p0]] ++ [[b3], M]) := hms.pick [some 1, some 0, some 2] _ rfl
 have hsb2 : ∀ x ∈ fl ([[b_p0]] ++ [[b3], M]), x ∈ fl [[b3], [b_p0], M] := pick_sub [some 1, some 0, some 2] _ rfl
 have hst0 := Stp.call (LS := [[b3], [b_p0], M]) (res := []) (par := [[b_p0]]) (R := [[b3], M]) he12 (fun b hb => hsb2 b (fl_left' (P := [[b_p0]]) b hb)) (FR.nil _) (NP.init _ _) (fun x hx => hsb2 x (fl_right' (P := [[b_p0]]) x hx))
 have hsn : ∀ x ∈ fl [[b3], [b_p0], M], x ∈ fl ([] ++ ([[b_p0]] ++ [[b3], M])) := pick_sub [some 1, some 0, some 2] _ rfl
 have hst := hst0.res hsn
 replace hs_p0_0 := hs_p0_0.step hst
 replace hb3 := he12.box hb3 ((MS.outs (P := [[b_p0]]) hpk2 0 rfl) _ mem1)
 replace hs9 := hs9.step hst
 replace hms := hms.ev he12
 replace hev := hev.then he12 (fun b hb => .inl (by simpa using hb))
 replace hb_p0 := hp12_0
 clear hpk hsb hsb0 hpk2 hsb2 hst0 hsn hst
 refine x_pure 1 [(16, Vp b_p0 0)] _ _ _ (by kernel_rfl) ?_
 refine x_buildSlice (vs := [(0, Vi 0), (1, Vi 1), (2, Vi 10), (3, Vi 30), (4, Vi 100)]) #[Vi 0, Vi 1, Vi 10, Vi 30, Vi 100] 3 rfl rfl rfl (by kernel_rfl) (fun b13 w13 hq13 hb13 he13 hz13 => ?_)
 refine inl1 ?_
 have hms0 := hms
 have hst := Stp.ext (ls := [[b3], [b_p0], M]) he13
 replace hs_p0_0 := hs_p0_0.step hst
 replace hb_p0 := he13.box hb_p0 nn
 replace hb3 := he13.box hb3 nn
 replace hs9 := hs9.step hst
 replace hms := hms.ev he13
 replace hev := hev.ext he13
 have hs13 : SlR (eInt .i64) w13 (fl [[b3], [b_p0], M]) (Ad b13 0) 5 ([0, 1, 10, 30, 100]) := ro_of_box hms0 hq13 hb13 rfl rfl (cells_at (cs := [Vi 0, Vi 1, Vi 10, Vi 30, Vi 100]) (CellsOf.cons (c := [Vi 0]) rfl (CellsOf.cons (c := [Vi 1]) rfl (CellsOf.cons (c := [Vi 10]) rfl (CellsOf.cons (c := [Vi 30]) rfl (CellsOf.cons (c := [Vi 100]) rfl CellsOf.nil))))))
 clear hb13 hms0
 obtain ⟨x15, hx, h⟩ := bind_some h
 have hpk : MS w13 ([[b_p0]] ++ [[b3], M]) := hms.pick [some 1, some 0, some 2] _ rfl
 have hsb0 : ∀ x ∈ fl ([[b_p0]] ++ [[b3], M]), x ∈ fl [[b3], [b_p0], M] := pick_sub [some 1, some 0, some 2] _ rfl
 have hsb : ∀ x ∈ fl ([[b_p0]] ++ [(fl [[b3], M])]), x ∈ fl [[b3], [b_p0], M] := fun x hx => hsb0 x (fl_unfold x hx)
 have hcall := gen_Maker_Pick_w b_p0 a_p0_0 c_p0_0 p0_0 x11.2 (Ad b13 0) 5 ([0, 1, 10, 30, 100]) _ w13 (fl [[b3], M]) (hpk.fold (P := [[b_p0]])) (hs_p0_0.sub hsb) hb_p0 (hs13.sub hsb) hx
 refine x_call 9 #[] #[] [Vp b_p0 0, .slice (Ad b13 0) ([0, 1, 10, 30, 100]).length 5] _ rfl rfl rfl rfl hcall ?_
 rintro v w16 ⟨rfl, he16, hp16_0⟩
 clear hcall hx
 refine inl1 ?_
 have hpk2 : MS w13 ([[b_p0]] ++ [[b3], M]) := hms.pick [some 1, some 0, some 2] _ rfl
 have hsb2 : ∀ x ∈ fl ([[b_p0]] ++ [[b3], M]), x ∈ fl [[b3], [b_p0], M] := pick_sub [some 1, some 0, some 2] _ rfl
 have hst0 := Stp.call (LS := [[b3], [b_p0], M]) (res := []) (par := [[b_p0]]) (R := [[b3], M]) he16 (fun b hb => hsb2 b (fl_left' (P := [[b_p0]]) b hb)) (FR.nil _) (NP.init _ _) (fun x hx => hsb2 x (fl_right' (P := [[b_p0]]) x hx))
 have hsn : ∀ x ∈ fl [[b3], [b_p0], M], x ∈ fl ([] ++ ([[b_p0]] ++ [[b3], M])) := pick_sub [some 1, some 0, some 2] _ rfl
 have hst := hst0.res hsn
 replace hs_p0_0 := hs_p0_0.step hst
 replace hb3 := he16.box hb3 ((MS.outs (P := [[b_p0]]) hpk2 0 rfl) _ mem1)
 replace hs9 := hs9.step hst
 replace hs13 := hs13.step hst
 replace hms := hms.ev he16
 replace hev := hev.then he16 (fun b hb => .inl (by simpa using hb))
 replace hb_p0 := hp16_0
 clear hpk hsb hsb0 hpk2 hsb2 hst0 hsn hst
 refine x_build (vs := [(0, Vi x5.1), (1, Vi (IntKind.i64.wrap (x5.1 + x7.1))), (3, Vi x11.1), (4, Vi x15.1)]) (.agg #[Vi x5.1, Vi (IntKind.i64.wrap (x5.1 + x7.1)), .slice none 0 0, Vi x11.1, Vi x15.1]) rfl rfl rfl (fun _ _ => by kernel_rfl) ?_
 refine x_alloc (z := .agg #[Vi 0, Vi 0, .slice none 0 0, Vi 0, Vi 0]) rfl rfl (by kernel_rfl) (fun b17 w17 hq17 hb17 he17 hz17 => ?_)
 replace hb17 : w17.heap[b17]? = some (.cells #[Vi 0, Vi 0, .slice none 0 0, Vi 0, Vi 0] 24 (0, 0)) := hb17
 refine inl1 ?_
 have hst := Stp.box (ls := [[b3], [b_p0], M]) he17 hq17
 replace hs_p0_0 := hs_p0_0.step hst
 replace hb_p0 := he17.box hb_p0 nn
 replace hb3 := he17.box hb3 nn
 replace hs9 := hs9.step hst
 replace hs13 := hs13.step hst
 replace hms := hms.box he17 hq17 hb17
 replace hfr := hfr.box hev.size hq17
 replace hev := hev.ext he17
 obtain ⟨w19, hr19, hb19, he19⟩ := store_boxagg 0 [Vi x5.1, Vi (IntKind.i64.wrap (x5.1 + x7.1)), .slice none 0 0, Vi x11.1, Vi x15.1] #[Vi x5.1, Vi (IntKind.i64.wrap (x5.1 + x7.1)), .slice none 0 0, Vi x11.1, Vi x15.1] tagg24 hb17 rfl rfl rfl
 refine x_store w19 (xv := Vp b17 0) (yv := .agg #[Vi x5.1, Vi (IntKind.i64.wrap (x5.1 + x7.1)), .slice none 0 0, Vi x11.1, Vi x15.1]) rfl rfl rfl rfl hr19 ?_
 refine inl1 ?_
 have hst := Stp.ev' (ls := [[b17], [b3], [b_p0], M]) he19 (mem_flat 0 rfl)
 replace hs_p0_0 := hs_p0_0.step hst
 replace hb_p0 := he19.box hb_p0 (hms.apart 2 0 rfl rfl rfl _ mem1)
 replace hb3 := he19.box hb3 (hms.apart 1 0 rfl rfl rfl _ mem1)
 replace hs9 := hs9.step hst
 replace hs13 := hs13.step hst
 replace hms := hms.ev he19
 replace hev := hev.then he19 (fun b hb => .inr (hfr.at 0 rfl b hb))
 replace hb17 := hb19
 refine x_ek ?_
 refine c_norm [(0, Vp b_p0 0), (2, Vp b3 0), (3, Vi x5.1), (4, Vp b17 0)] ⟨rfl, rfl, rfl, rfl, trivial⟩ (fun J => ?_)
 refine c_seq ?_
 refine c_sp ?_
 refine x_pure 1 [(20, Vp b_p0 0)] _ _ _ (by kernel_rfl) ?_
 obtain ⟨x20, hx, h⟩ := bind_some h
 have hpk : MS w19 ([[b_p0]] ++ [[b17], [b3], M]) := hms.pick [some 2, some 0, some 1, some 3] _ rfl
 have hsb0 : ∀ x ∈ fl ([[b_p0]] ++ [[b17], [b3], M]), x ∈ fl [[b17], [b3], [b_p0], M] := pick_sub [some 2, some 0, some 1, some 3] _ rfl
 have hsb : ∀ x ∈ fl ([[b_p0]] ++ [(fl [[b17], [b3], M])]), x ∈ fl [[b17], [b3], [b_p0], M] := fun x hx => hsb0 x (fl_unfold x hx)
 have hcall := gen_Maker_Next_w b_p0 a_p0_0 c_p0_0 p0_0 x15.2 9 _ w19 (fl [[b17], [b3], M]) (hpk.fold (P := [[b_p0]])) (hs_p0_0.sub hsb) hb_p0 hx
 refine x_call 11 #[] #[] [Vp b_p0 0, Vi 9] _ rfl rfl rfl rfl hcall ?_
 rintro v w21 ⟨rfl, he21, hp21_0⟩
 clear hcall hx
 refine inl1 ?_
 have hpk2 : MS w19 ([[b_p0]] ++ [[b17], [b3], M]) := hms.pick [some 2, some 0, some 1, some 3] _ rfl
 have hsb2 : ∀ x ∈ fl ([[b_p0]] ++ [[b17], [b3], M]), x ∈ fl [[b17], [b3], [b_p0], M] := pick_sub [some 2, some 0, some 1, some 3] _ rfl
 have hst0 := Stp.call (LS := [[b17], [b3], [b_p0], M]) (res := []) (par := [[b_p0]]) (R := [[b17], [b3], M]) he21 (fun b hb => hsb2 b (fl_left' (P := [[b_p0]]) b hb)) (FR.nil _) (NP.init _ _) (fun x hx => hsb2 x (fl_right' (P := [[b_p0]]) x hx))
 have hsn : ∀ x ∈ fl [[b17], [b3], [b_p0], M], x ∈ fl ([] ++ ([[b_p0]] ++ [[b17], [b3], M])) := pick_sub [some 1, some 2, some 0, some 3] _ rfl
 have hst := hst0.res hsn
 replace hs_p0_0 := hs_p0_0.step hst
 replace hb3 := he21.box hb3 ((MS.outs (P := [[b_p0]]) hpk2 1 rfl) _ mem1)
 replace hb17 := he21.box hb17 ((MS.outs (P := [[b_p0]]) hpk2 0 rfl) _ mem1)
 replace hms := hms.ev he21
 replace hev := hev.then he21 (fun b hb => .inl (by simpa using hb))
 replace hb_p0 := hp21_0
 clear hpk hsb hsb0 hpk2 hsb2 hst0 hsn hst
 refine x_pure 1 [(5, Vi x20.1)] _ _ _ (by kernel_rfl) ?_
 refine x_ek ?_
 refine c_block ?_
 have hst := Stp.push (ls := [[b17], [b3], [b_p0], M]) (l := blk none) (Ev.refl [] w21) (fun _ h => by cases h) (fun _ h => by cases h)
 replace hs_p0_0 := hs_p0_0.step hst
 replace hb_p0 := (Ev.refl [] _).box hb_p0 nn
 replace hb3 := (Ev.refl [] _).box hb3 nn
 replace hb17 := (Ev.refl [] _).box hb17 nn
 replace hms := hms.push (l := blk none) (Ev.refl [] _) (fun _ h => by cases h)
 replace hfr := hfr.push (l := blk none) (fun _ h => by cases h)
 have ho23 := OwnS.nil (eInt .i64) 3 w21 (fl [blk none, [b17], [b3], [b_p0], M])
 have hpk : MS w21 [[b3], blk none, [b17], [b_p0], M] := hms.pick [some 2, some 0, some 1, some 3, some 4] _ rfl
 have hsu : ∀ x ∈ fl [[b3], blk none, [b17], [b_p0], M], x ∈ fl [blk none, [b17], [b3], [b_p0], M] := pick_sub [some 2, some 0, some 1, some 3, some 4] _ rfl
 replace hs_p0_0 := hs_p0_0.sub hsu
 replace ho23 := ho23.sub hsu
 replace hms := hpk
 replace hfr : FR w.heap.size [[b3], blk none, [b17]] := hfr.pick [some 2, some 0, some 1] _ rfl
 clear hpk hsu
 obtain ⟨d22, hd22, h22⟩ := bind_some h
 obtain ⟨m22, hd22⟩ := loop_some hd22
 refine c_loop (loop_rule hmx (σ := Nat × Int × (List Int) × Int × Option Addr × Nat) (fun s => match s with | (_, e2_l22_1, d24_l22, i_s5_l22, a24_l22, c24_l22) => [(0, Vp b_p0 0), (2, Vp b3 0), (3, Vi x5.1), (4, Vp b17 0), (5, Vi i_s5_l22)]) (fun s w' => match s with | (m, e2_l22_1, d24_l22, i_s5_l22, a24_l22, c24_l22) => loopN (law41_made_L22 p0_0 x5) m (e2_l22_1, d24_l22, i_s5_l22) = some d22 ∧ Ev [b_p0] w w' ∧ MS w' [[b3], blk a24_l22, [b17], [b_p0], M] ∧ FR w.heap.size [[b3], blk a24_l22, [b17]] ∧ SlR (eInt .i64) w' (fl [[b3], blk a24_l22, [b17], [b_p0], M]) a_p0_0 c_p0_0 p0_0 ∧ w'.heap[b_p0]? = some (.cells #[.slice a_p0_0 (p0_0).length c_p0_0, Vi e2_l22_1] 45 (0, 0)) ∧ w'.heap[b3]? = some (.cells #[Vi 0, Vi 0, .slice none 0 0, Vi 0, Vi 0] 24 (0, 0)) ∧ OwnS (eInt .i64) 3 w' (fl [[b3], blk a24_l22, [b17], [b_p0], M]) a24_l22 c24_l22 d24_l22 ∧ w'.heap[b17]? = some (.cells #[Vi x5.1, Vi (IntKind.i64.wrap (x5.1 + x7.1)), .slice a24_l22 (d24_l22).length c24_l22, Vi x11.1, Vi x15.1] 24 (0, 0))) (fun s => s.1) (m22, x20.2, ([] : List Int), x20.1, none, 0) ⟨rfl, rfl, rfl, rfl, rfl, trivial⟩ ⟨hd22, hev, hms, hfr, hs_p0_0, hb_p0, hb3, ho23, hb17⟩ ?_)
 rintro ⟨m22, e2_l22_1, d24_l22, i_s5_l22, a24_l22, c24_l22⟩ J wl22 ⟨hn22, hev, hms, hfr, hs_p0_0, hb_p0, hb3, hj24_l22, hb17⟩
 rcases m22 with _ | m22
 · exact (loopN_zero hn22).elim
 obtain ⟨t22, h, hn22⟩ := bind_some hn22
 refine c_seq ?_
 refine c_sp ?_
 refine x_pure 2 [(22, Vi i_s5_l22), (23, .bool (decide (i_s5_l22 > 0)))] _ _ _ (by kernel_rfl) ?_
 refine x_ek ?_
 refine c_norm [(0, Vp b_p0 0), (2, Vp b3 0), (3, Vi x5.1), (4, Vp b17 0), (5, Vi i_s5_l22), (23, .bool (decide (i_s5_l22 > 0)))] ⟨rfl, rfl, rfl, rfl, rfl, rfl, trivial⟩ (fun J => ?_)
 refine c_cond (decide (i_s5_l22 > 0)) rfl (fun hb => ?_) (fun hb => ?_)
 · replace h := ite_t hb h
   refine c_skip ?_
   refine k_then ?_
   refine c_seq ?_
   refine c_block ?_
   refine c_drawn [b_p0] [(0, false), (1, false), (2, false), (3, false), (4, true), (5, false), (6, true), (7, true), (8, false), (9, true), (10, true), (11, true)] _ (by kernel_rfl) rfl ?_
   have hst := Stp.ext (ls := [[b3], blk a24_l22, [b17], [b_p0], M]) (Ev.drew wl22)
   replace hb_p0 := (Ev.drew wl22).box hb_p0 nn
   replace hs_p0_0 := hs_p0_0.step hst
   replace hb3 := (Ev.drew wl22).box hb3 nn
   replace hb17 := (Ev.drew wl22).box hb17 nn
   replace hj24_l22 := hj24_l22.step hst (Ev.drew wl22) nn2
   replace hms := hms.ev (Ev.drew wl22)
   replace hev := hev.ext (Ev.drew wl22)
   refine x_fieldAddr (xv := Vp b17 0) (Vp b17 2) rfl rfl rfl (reads_field tfld24_2 _ _) ?_
   refine x_load (xv := Vp b17 2) (.slice a24_l22 (d24_l22).length c24_l22) rfl rfl rfl (reads_box tcell22 hb17 ((hms.apart 2 3 rfl rfl rfl) _ mem1) 2 _ rfl) ?_
   refine x_pure 3 [(28, Vi x5.1), (29, Vi (IntKind.i64.wrap (x5.1 - 30))), (30, Vp b_p0 0)] _ _ _ (by kernel_rfl) ?_
   obtain ⟨x26, hx, h⟩ := bind_some h
   have hpk : MS (wl22).drew ([[b_p0]] ++ [[b3], blk a24_l22, [b17], M]) := hms.pick [some 3, some 0, some 1, some 2, some 4] _ rfl
   have hsb0 : ∀ x ∈ fl ([[b_p0]] ++ [[b3], blk a24_l22, [b17], M]), x ∈ fl [[b3], blk a24_l22, [b17], [b_p0], M] := pick_sub [some 3, some 0, some 1, some 2, some 4] _ rfl
   have hsb : ∀ x ∈ fl ([[b_p0]] ++ [(fl [[b3], blk a24_l22, [b17], M])]), x ∈ fl [[b3], blk a24_l22, [b17], [b_p0], M] := fun x hx => hsb0 x (fl_unfold x hx)
   have hcall := gen_Maker_Next_w b_p0 a_p0_0 c_p0_0 p0_0 e2_l22_1 120 _ (wl22).drew (fl [[b3], blk a24_l22, [b17], M]) (hpk.fold (P := [[b_p0]])) (hs_p0_0.sub hsb) hb_p0 hx
   refine x_call 11 #[] #[] [Vp b_p0 0, Vi 120] _ rfl rfl rfl rfl hcall ?_
   rintro v w27 ⟨rfl, he27, hp27_0⟩
   clear hcall hx
   refine ⟨.inr he27, ?_⟩
   have hpk2 : MS (wl22).drew ([[b_p0]] ++ [[b3], blk a24_l22, [b17], M]) := hms.pick [some 3, some 0, some 1, some 2, some 4] _ rfl
   have hsb2 : ∀ x ∈ fl ([[b_p0]] ++ [[b3], blk a24_l22, [b17], M]), x ∈ fl [[b3], blk a24_l22, [b17], [b_p0], M] := pick_sub [some 3, some 0, some 1, some 2, some 4] _ rfl
   have hst0 := Stp.call (LS := [[b3], blk a24_l22, [b17], [b_p0], M]) (res := []) (par := [[b_p0]]) (R := [[b3], blk a24_l22, [b17], M]) he27 (fun b hb => hsb2 b (fl_left' (P := [[b_p0]]) b hb)) (FR.nil _) (NP.init _ _) (fun x hx => hsb2 x (fl_right' (P := [[b_p0]]) x hx))
   have hsn : ∀ x ∈ fl [[b3], blk a24_l22, [b17], [b_p0], M], x ∈ fl ([] ++ ([[b_p0]] ++ [[b3], blk a24_l22, [b17], M])) := pick_sub [some 1, some 2, some 3, some 0, some 4] _ rfl
   have hst := hst0.res hsn
   replace hs_p0_0 := hs_p0_0.step hst
   replace hb3 := he27.box hb3 ((MS.outs (P := [[b_p0]]) hpk2 0 rfl) _ mem1)
   replace hb17 := he27.box hb17 ((MS.outs (P := [[b_p0]]) hpk2 2 rfl) _ mem1)
   replace hj24_l22 := hj24_l22.step hst he27 (MS.outs (P := [[b_p0]]) hpk2 1 rfl)
   replace hms := hms.ev he27
   replace hev := hev.then he27 (fun b hb => .inl (by simpa using hb))
   replace hb_p0 := hp27_0
   clear hpk hsb hsb0 hpk2 hsb2 hst0 hsn hst
   refine x_pure 1 [(32, Vi (IntKind.i64.wrap ((IntKind.i64.wrap (x5.1 - 30)) + x26.1)))] _ _ _ (by kernel_rfl) ?_
   refine x_max (vs := [Vi 0, Vi (IntKind.i64.wrap ((IntKind.i64.wrap (x5.1 - 30)) + x26.1))]) (Vi (if (IntKind.i64.wrap ((IntKind.i64.wrap (x5.1 - 30)) + x26.1)) > 0 then (IntKind.i64.wrap ((IntKind.i64.wrap (x5.1 - 30)) + x26.1)) else 0)) rfl rfl rfl (fun _ _ => rfl) ?_
   refine x_buildSlice (vs := [(0, Vi (if (IntKind.i64.wrap ((IntKind.i64.wrap (x5.1 - 30)) + x26.1)) > 0 then (IntKind.i64.wrap ((IntKind.i64.wrap (x5.1 - 30)) + x26.1)) else 0))]) #[Vi (if (IntKind.i64.wrap ((IntKind.i64.wrap (x5.1 - 30)) + x26.1)) > 0 then (IntKind.i64.wrap ((IntKind.i64.wrap (x5.1 - 30)) + x26.1)) else 0)] 3 rfl rfl rfl (by kernel_rfl) (fun b28 w28 hq28 hb28 he28 hz28 => ?_)
   refine ⟨.inr (he28.nil), ?_⟩
   have hms0 := hms
   have hst := Stp.ext (ls := [[b3], blk a24_l22, [b17], [b_p0], M]) he28
   replace hb_p0 := he28.box hb_p0 nn
   replace hs_p0_0 := hs_p0_0.step hst
   replace hb3 := he28.box hb3 nn
   replace hb17 := he28.box hb17 nn
   replace hj24_l22 := hj24_l22.step hst he28 nn2
   replace hms := hms.ev he28
   replace hev := hev.ext he28
   have hs28 : SlR (eInt .i64) w28 (fl [[b3], blk a24_l22, [b17], [b_p0], M]) (Ad b28 0) 1 ([if (IntKind.i64.wrap ((IntKind.i64.wrap (x5.1 - 30)) + x26.1)) > 0 then (IntKind.i64.wrap ((IntKind.i64.wrap (x5.1 - 30)) + x26.1)) else 0]) := ro_of_box hms0 hq28 hb28 rfl rfl (cells_at (cs := [Vi (if (IntKind.i64.wrap ((IntKind.i64.wrap (x5.1 - 30)) + x26.1)) > 0 then (IntKind.i64.wrap ((IntKind.i64.wrap (x5.1 - 30)) + x26.1)) else 0)]) (CellsOf.cons (c := [Vi (if (IntKind.i64.wrap ((IntKind.i64.wrap (x5.1 - 30)) + x26.1)) > 0 then (IntKind.i64.wrap ((IntKind.i64.wrap (x5.1 - 30)) + x26.1)) else 0)]) rfl CellsOf.nil))
   clear hb28 hms0
   have hg := guard_l h
   replace h := guard_r h
   obtain ⟨a30, c30, w30, hr30, he30, hn30, hm30, hw30⟩ := own_appendN tel22 22 hj24_l22 (mem_flat 1 rfl) hs28 hg
   refine x_builtin (vs := [.slice a24_l22 (d24_l22).length c24_l22, .slice (Ad b28 0) ([if (IntKind.i64.wrap ((IntKind.i64.wrap (x5.1 - 30)) + x26.1)) > 0 then (IntKind.i64.wrap ((IntKind.i64.wrap (x5.1 - 30)) + x26.1)) else 0]).length 1]) _ w30 rfl rfl rfl rfl (run_value _ _ _ _ hr30) ?_
   refine inl1 ?_
   have hst : Stp (fl [[b3], blk a24_l22, [b17], [b_p0], M]) w28 (fl [[b3], blk a30, [b17], [b_p0], M]) w30 := Stp.upd 1 he30 rfl (fun b hb => (hn30 b hb).1)
   replace hb_p0 := he30.box hb_p0 (hms.apart 3 1 rfl rfl rfl _ mem1)
   replace hs_p0_0 := hs_p0_0.step hst
   replace hb3 := he30.box hb3 (hms.apart 0 1 rfl rfl rfl _ mem1)
   replace hb17 := he30.box hb17 (hms.apart 2 1 rfl rfl rfl _ mem1)
   replace hs28 := hs28.step hst
   replace hms : MS w30 [[b3], blk a30, [b17], [b_p0], M] := hms.upd 1 he30 rfl hn30
   have hfr2 : FR w.heap.size [[b3], blk a30, [b17]] := hfr.upd 1 rfl hev.size (fun b hb => (hn30 b hb).1)
   replace hev := hev.then he30 (fun b hb => .inr (hfr.at 1 rfl b hb))
   replace hfr := hfr2
   clear hfr2
   replace hj24_l22 := hw30 (fl [[b3], blk a30, [b17], [b_p0], M]) hst.new
   clear hw30
   refine x_fieldAddr (xv := Vp b17 0) (Vp b17 2) rfl rfl rfl (reads_field tfld24_2 _ _) ?_
   obtain ⟨w31, hr31, hb31, he31⟩ := store_box 2 (.slice a30 ((d24_l22 ++ [if (IntKind.i64.wrap ((IntKind.i64.wrap (x5.1 - 30)) + x26.1)) > 0 then (IntKind.i64.wrap ((IntKind.i64.wrap (x5.1 - 30)) + x26.1)) else 0])).length c30) #[Vi x5.1, Vi (IntKind.i64.wrap (x5.1 + x7.1)), .slice a30 ((d24_l22 ++ [if (IntKind.i64.wrap ((IntKind.i64.wrap (x5.1 - 30)) + x26.1)) > 0 then (IntKind.i64.wrap ((IntKind.i64.wrap (x5.1 - 30)) + x26.1)) else 0])).length c30, Vi x11.1, Vi x15.1] tcell22 hb17 rfl rfl rfl
   refine x_store w31 (xv := Vp b17 2) (yv := .slice a30 ((d24_l22 ++ [if (IntKind.i64.wrap ((IntKind.i64.wrap (x5.1 - 30)) + x26.1)) > 0 then (IntKind.i64.wrap ((IntKind.i64.wrap (x5.1 - 30)) + x26.1)) else 0])).length c30) rfl rfl rfl rfl hr31 ?_
   refine inl1 ?_
   have hst := Stp.ev' (ls := [[b3], blk a30, [b17], [b_p0], M]) he31 (mem_flat 2 rfl)
   replace hb_p0 := he31.box hb_p0 (hms.apart 3 2 rfl rfl rfl _ mem1)
   replace hs_p0_0 := hs_p0_0.step hst
   replace hb3 := he31.box hb3 (hms.apart 0 2 rfl rfl rfl _ mem1)
   replace hj24_l22 := hj24_l22.step hst he31 (hms.apart 1 2 rfl rfl rfl)
   replace hs28 := hs28.step hst
   replace hms := hms.ev he31
   replace hev := hev.then he31 (fun b hb => .inr (hfr.at 2 rfl b hb))
   replace hb17 := hb31
   refine x_end rfl ?_
   refine k_block ?_
   refine k_then ?_
   refine c_plain ?_
   refine x_pure 3 [(24, Vi i_s5_l22), (25, Vi (IntKind.i64.wrap (i_s5_l22 - 1))), (5, Vi (IntKind.i64.wrap (i_s5_l22 - 1)))] _ _ _ (by kernel_rfl) ?_
   refine x_end rfl ?_
   have hx := some_inj h
   subst hx
   exact k_then ⟨(m22, x26.2, (d24_l22 ++ [if (IntKind.i64.wrap ((IntKind.i64.wrap (x5.1 - 30)) + x26.1)) > 0 then (IntKind.i64.wrap ((IntKind.i64.wrap (x5.1 - 30)) + x26.1)) else 0]), IntKind.i64.wrap (i_s5_l22 - 1), a30, c30), ⟨rfl, rfl, rfl, rfl, rfl, trivial⟩, ⟨hn22, hev, hms, hfr, hs_p0_0, hb_p0, hb3, hj24_l22, hb17⟩, Nat.lt_succ_self _⟩
 replace h := ite_f hb h
 refine c_exit ?_
 refine k_then_exit ?_
 have hx := some_inj h
 subst hx
 have hy := some_inj hn22
 subst hy
 replace h := h22
 refine k_then_exit ?_
 refine k_block_in ?_
 refine k_then ?_
 refine c_norm [(2, Vp b3 0), (4, Vp b17 0)] ⟨rfl, rfl, trivial⟩ (fun J => ?_)
 refine c_sp ?_
 refine x_load (xv := Vp b17 0) (.agg #[Vi x5.1, Vi (IntKind.i64.wrap (x5.1 + x7.1)), .slice a24_l22 (d24_l22).length c24_l22, Vi x11.1, Vi x15.1]) rfl rfl rfl (reads_boxagg 0 [Vi x5.1, Vi (IntKind.i64.wrap (x5.1 + x7.1)), .slice a24_l22 (d24_l22).length c24_l22, Vi x11.1, Vi x15.1] tagg24 hb17 nn rfl) ?_
 obtain ⟨w32, hr32, hb32, he32⟩ := store_boxagg 0 [Vi x5.1, Vi (IntKind.i64.wrap (x5.1 + x7.1)), .slice a24_l22 (d24_l22).length c24_l22, Vi x11.1, Vi x15.1] #[Vi x5.1, Vi (IntKind.i64.wrap (x5.1 + x7.1)), .slice a24_l22 (d24_l22).length c24_l22, Vi x11.1, Vi x15.1] tagg24 hb3 rfl rfl rfl
 refine x_store w32 (xv := Vp b3 0) (yv := .agg #[Vi x5.1, Vi (IntKind.i64.wrap (x5.1 + x7.1)), .slice a24_l22 (d24_l22).length c24_l22, Vi x11.1, Vi x15.1]) rfl rfl rfl rfl hr32 ?_
 refine inl1 ?_
 have hst := Stp.ev' (ls := [[b3], blk a24_l22, [b17], [b_p0], M]) he32 (mem_flat 0 rfl)
 replace hb_p0 := he32.box hb_p0 (hms.apart 3 0 rfl rfl rfl _ mem1)
 replace hs_p0_0 := hs_p0_0.step hst
 replace hb17 := he32.box hb17 (hms.apart 2 0 rfl rfl rfl _ mem1)
 replace hj24_l22 := hj24_l22.step hst he32 (hms.apart 1 0 rfl rfl rfl)
 replace hms := hms.ev he32
 replace hev := hev.then he32 (fun b hb => .inr (hfr.at 0 rfl b hb))
 replace hb3 := hb32
 refine x_ek ?_
 refine c_ret ?_
 refine r_ret (r_vals [.agg #[Vi x5.1, Vi (IntKind.i64.wrap (x5.1 + x7.1)), .slice a24_l22 (d24_l22).length c24_l22, Vi x11.1, Vi x15.1]] ⟨⟨_, rfl, loadVar_of_reads (reads_boxagg (Mo := []) 0 [Vi x5.1, Vi (IntKind.i64.wrap (x5.1 + x7.1)), .slice a24_l22 (d24_l22).length c24_l22, Vi x11.1, Vi x15.1] tagg24 hb3 nn rfl)⟩, trivial⟩ ?_)
 have hx := some_inj h
 subst hx
 have hmr : MS w32 [blk a24_l22, [b_p0], M] := hms.pick [some 1, some 3, some 4] _ rfl
 have hsu : ∀ x ∈ fl [blk a24_l22, [b_p0], M], x ∈ fl [[b3], blk a24_l22, [b17], [b_p0], M] := pick_sub [some 1, some 3, some 4] _ rfl
 have hfe : FR w.heap.size [blk a24_l22] := hfr.pick [some 1] _ rfl
 exact ⟨a24_l22, c24_l22, rfl, hev, hb_p0, hmr, hfe, hj24_l22.sub hsu⟩
end Go.Proofs.Ytdjadgodphfihaa
