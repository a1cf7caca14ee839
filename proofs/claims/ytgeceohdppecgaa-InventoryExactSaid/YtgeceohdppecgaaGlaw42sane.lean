
/- Walks, printed by program: each function returns what the partial function of the same name returns. Conditions: those of each theorem. -/
import Derived.Test.YtgeceohdppecgaaGT
import Derived.Test.YtgeceohdppecgaaGgen
import Derived.Test.YtgeceohdppecgaaGinventory
import Derived.Test.YtgeceohdppecgaaGyardgen
set_option linter.unusedVariables false
set_option linter.unusedSimpArgs false
set_option maxRecDepth 4000
namespace Go.Proofs.Ytgeceohdppecgaa
open Go Go.V Go.Proofs
def law42_sane : Option Bool :=
((inventory_Apply ([(([] : List UInt8), 900), (([] : List UInt8), 900)] : List ((List UInt8) × Int)) ([100, 100, 100]) ([[0, 1], [2]] : List (List Int)) 1 0 1 false).bind fun x11 =>
((inventory_Apply ([(([] : List UInt8), 900), (([] : List UInt8), 900)] : List ((List UInt8) × Int)) ([100, 100, 100]) ([[0, 1], [2]] : List (List Int)) 1 0 1 true).bind fun x14 =>
((inventory_Apply ([(([] : List UInt8), 900), (([] : List UInt8), 900)] : List ((List UInt8) × Int)) ([100, 100, 100]) ([[0, 1], [2]] : List (List Int)) 2 0 1 false).bind fun x17 =>
((inventory_String ([[0, 1], [2]] : List (List Int)) 0 1 2).bind fun x20 =>
(if (x11.2 == 0) = true then
((gen_Lists x11.1 ([[0], [2, 1]] : List (List Int))).bind fun x29 =>
(if x29 = true then
(if (x14.2 == 0) = true then
((gen_Lists x14.1 ([[0], [1, 2]] : List (List Int))).bind fun x37 =>
(if x37 = true then
(if (x17.2 == 17) = true then
(if (x20.2 == 0) = true then
((yardgen_SameShifts x20.1 ([(0, 0, 1, false), (1, 0, 1, false)] : List (Int × Int × Int × Bool))).bind fun x41 =>
some x41)
else
some false)
else
some false)
else
some false))
else
some false)
else
some false))
else
some false)))))

theorem law42_sane_w (r : Bool) (w : World) (h : law42_sane = some r) : CallVC Try.prog 13 [] w fun v w' => v = .bool r ∧ Ev [] w w' := by
 refine calls_vc hmx Try.func13 (by kernel_rfl) rfl (rs := [.tmp 0]) rfl (by kernel_rfl) (args := []) rfl ?_
 have hev : Ev [] w w := Ev.refl _ _
 have hms : MS w [[]] := ⟨List.pairwise_singleton _ _, fun l hl b hb => by simp only [List.mem_singleton] at hl; subst hl; cases hb⟩
 have hfr : FR w.heap.size [] := FR.nil _
 refine c_sp ?_
 refine x_u 1 [(0, .bool false)] ?_
 refine x_ek ?_
 refine c_sp ?_
 refine x_build (vs := [(1, Vi 900)]) (.agg #[Vs ([] : List UInt8), Vi 900]) rfl rfl rfl (fun _ _ => by kernel_rfl) ?_
 refine x_build (vs := [(1, Vi 900)]) (.agg #[Vs ([] : List UInt8), Vi 900]) rfl rfl rfl (fun _ _ => by kernel_rfl) ?_
 refine x_buildSlice (vs := [(0, .agg #[Vs ([] : List UInt8), Vi 900]), (1, .agg #[Vs ([] : List UInt8), Vi 900])]) #[Vs ([] : List UInt8), Vi 900, Vs ([] : List UInt8), Vi 900] 45 rfl rfl rfl (by kernel_rfl) (fun b1 w1 hq1 hb1 he1 hz1 => ?_)
 refine inl1 ?_
 have hms0 := hms
 replace hms := hms.ev he1
 replace hev := hev.ext he1
 have hs1 : SlR (eProd eStr (eInt .i64)) w1 (fl [[]]) (Ad b1 0) 2 ([(([] : List UInt8), 900), (([] : List UInt8), 900)] : List ((List UInt8) × Int)) := ro_of_box hms0 hq1 hb1 rfl rfl (cells_at (cs := [Vs ([] : List UInt8), Vi 900, Vs ([] : List UInt8), Vi 900]) (CellsOf.cons (c := [Vs ([] : List UInt8), Vi 900]) ⟨[Vs ([] : List UInt8)], [Vi 900], rfl, rfl, rfl⟩ (CellsOf.cons (c := [Vs ([] : List UInt8), Vi 900]) ⟨[Vs ([] : List UInt8)], [Vi 900], rfl, rfl, rfl⟩ CellsOf.nil)))
 clear hb1 hms0
 refine x_u 1 [(1, .slice (Ad b1 0) (([(([] : List UInt8), 900), (([] : List UInt8), 900)] : List ((List UInt8) × Int))).length 2)] ?_
 refine x_ek ?_
 refine c_sp ?_
 refine x_buildSlice (vs := [(0, Vi 0), (1, Vi 1)]) #[Vi 0, Vi 1] 3 rfl rfl rfl (by kernel_rfl) (fun b3 w3 hq3 hb3 he3 hz3 => ?_)
 refine inl1 ?_
 have hms0 := hms
 have hst := Stp.ext (ls := [[]]) he3
 replace hs1 := hs1.step hst
 replace hms := hms.ev he3
 replace hev := hev.ext he3
 have hs3 : SlR (eInt .i64) w3 (fl [[]]) (Ad b3 0) 2 ([0, 1]) := ro_of_box hms0 hq3 hb3 rfl rfl (cells_at (cs := [Vi 0, Vi 1]) (CellsOf.cons (c := [Vi 0]) rfl (CellsOf.cons (c := [Vi 1]) rfl CellsOf.nil)))
 clear hb3 hms0
 refine x_buildSlice (vs := [(0, Vi 2)]) #[Vi 2] 3 rfl rfl rfl (by kernel_rfl) (fun b5 w5 hq5 hb5 he5 hz5 => ?_)
 refine inl1 ?_
 have hms0 := hms
 have hst := Stp.ext (ls := [[]]) he5
 replace hs1 := hs1.step hst
 replace hs3 := hs3.step hst
 replace hms := hms.ev he5
 replace hev := hev.ext he5
 have hs5 : SlR (eInt .i64) w5 (fl [[]]) (Ad b5 0) 1 ([2]) := ro_of_box hms0 hq5 hb5 rfl rfl (cells_at (cs := [Vi 2]) (CellsOf.cons (c := [Vi 2]) rfl CellsOf.nil))
 clear hb5 hms0
 refine x_buildSlice (vs := [(0, .slice (Ad b3 0) ([0, 1]).length 2), (1, .slice (Ad b5 0) ([2]).length 1)]) #[.slice (Ad b3 0) ([0, 1]).length 2, .slice (Ad b5 0) ([2]).length 1] 22 rfl rfl rfl (by kernel_rfl) (fun b7 w7 hq7 hb7 he7 hz7 => ?_)
 refine inl1 ?_
 have hms0 := hms
 have hst := Stp.ext (ls := [[]]) he7
 replace hs1 := hs1.step hst
 replace hs3 := hs3.step hst
 replace hs5 := hs5.step hst
 replace hms := hms.ev he7
 replace hev := hev.ext he7
 have hs7 : SlR (eSl (eInt .i64)) w7 (fl [[]]) (Ad b7 0) 2 ([[0, 1], [2]] : List (List Int)) := ro_of_box hms0 hq7 hb7 rfl rfl (cells_at (cs := [.slice (Ad b3 0) ([0, 1]).length 2, .slice (Ad b5 0) ([2]).length 1]) (CellsOf.cons (c := [.slice (Ad b3 0) ([0, 1]).length 2]) ⟨(Ad b3 0), 2, rfl, hs3⟩ (CellsOf.cons (c := [.slice (Ad b5 0) ([2]).length 1]) ⟨(Ad b5 0), 1, rfl, hs5⟩ CellsOf.nil)))
 clear hb7 hms0
 refine x_u 1 [(2, .slice (Ad b7 0) (([[0, 1], [2]] : List (List Int))).length 2)] ?_
 refine x_ek ?_
 refine c_sp ?_
 refine x_buildSlice (vs := [(0, Vi 100), (1, Vi 100), (2, Vi 100)]) #[Vi 100, Vi 100, Vi 100] 3 rfl rfl rfl (by kernel_rfl) (fun b9 w9 hq9 hb9 he9 hz9 => ?_)
 refine inl1 ?_
 have hms0 := hms
 have hst := Stp.ext (ls := [[]]) he9
 replace hs1 := hs1.step hst
 replace hs7 := hs7.step hst
 replace hms := hms.ev he9
 replace hev := hev.ext he9
 have hs9 : SlR (eInt .i64) w9 (fl [[]]) (Ad b9 0) 3 ([100, 100, 100]) := ro_of_box hms0 hq9 hb9 rfl rfl (cells_at (cs := [Vi 100, Vi 100, Vi 100]) (CellsOf.cons (c := [Vi 100]) rfl (CellsOf.cons (c := [Vi 100]) rfl (CellsOf.cons (c := [Vi 100]) rfl CellsOf.nil))))
 clear hb9 hms0
 refine x_u 1 [(3, .slice (Ad b9 0) ([100, 100, 100]).length 3)] ?_
 refine x_ek ?_
 refine c_sp ?_
 refine x_u 3 [(20, .slice (Ad b1 0) (([(([] : List UInt8), 900), (([] : List UInt8), 900)] : List ((List UInt8) × Int))).length 2), (21, .slice (Ad b9 0) ([100, 100, 100]).length 3), (22, .slice (Ad b7 0) (([[0, 1], [2]] : List (List Int))).length 2)] ?_
 refine x_build (vs := [(0, Vi 1), (1, Vi 0), (2, Vi 1)]) (.agg #[Vi 1, Vi 0, Vi 1, .bool false]) rfl rfl rfl (fun _ _ => by kernel_rfl) ?_
 obtain ⟨x11, hx, h⟩ := bind_some h
 have hpk : MS w9 ([] ++ [[]]) := hms.pick [some 0] _ rfl
 have hsb0 : ∀ x ∈ fl ([] ++ [[]]), x ∈ fl [[]] := pick_sub [some 0] _ rfl
 have hsb : ∀ x ∈ fl ([] ++ [(fl [[]])]), x ∈ fl [[]] := fun x hx => hsb0 x (fl_unfold x hx)
 have hcall := inventory_Apply_w (Ad b1 0) 2 ([(([] : List UInt8), 900), (([] : List UInt8), 900)] : List ((List UInt8) × Int)) (Ad b9 0) 3 ([100, 100, 100]) (Ad b7 0) 2 ([[0, 1], [2]] : List (List Int)) 1 0 1 false _ w9 (fl [[]]) (MS.fold (P := []) hpk) (hs1.sub hsb) (hs9.sub hsb) (hs7.sub hsb) hx
 refine x_call 9 #[] #[] [.slice (Ad b1 0) (([(([] : List UInt8), 900), (([] : List UInt8), 900)] : List ((List UInt8) × Int))).length 2, .slice (Ad b9 0) ([100, 100, 100]).length 3, .slice (Ad b7 0) (([[0, 1], [2]] : List (List Int))).length 2, .agg #[Vi 1, Vi 0, Vi 1, .bool false]] _ rfl rfl rfl rfl hcall ?_
 rintro v w12 ⟨a0_12, c0_12, B2_12, rfl, he12, hmn12, hfn12, hf12_1⟩
 clear hcall hx
 refine inl1 ?_
 have hpk2 : MS w9 ([] ++ [[]]) := hms.pick [some 0] _ rfl
 have hsb2 : ∀ x ∈ fl ([] ++ [[]]), x ∈ fl [[]] := pick_sub [some 0] _ rfl
 have hst0 := Stp.call (LS := [[]]) (res := [B2_12]) (par := []) (R := [[]]) he12 (fun b hb => hsb2 b (fl_left' (P := []) b hb)) hfn12 (NP.init _ _) (fun x hx => hsb2 x (fl_right' (P := []) x hx))
 have hsn : ∀ x ∈ fl [B2_12, []], x ∈ fl ([B2_12] ++ ([] ++ [[]])) := pick_sub [some 0, some 1] _ rfl
 have hst := hst0.res hsn
 replace hs1 := hs1.step hst
 replace hs7 := hs7.step hst
 replace hs9 := hs9.step hst
 replace hms : MS w12 [B2_12, []] := (MS.call (P := []) (R := [[]]) (res := [B2_12]) (par := []) hpk2 he12 hmn12 hfn12 (NP.init _ _)).pick [some 0, some 1] _ rfl
 have hfr2 : FR w.heap.size [B2_12] := (FR.cons (fun b hb => Nat.le_trans hev.size (hfn12.at 0 rfl b hb)) (FR.nil _))
 replace hev := hev.ext he12
 replace hfr := hfr2
 clear hfr2
 clear hpk hsb hsb0 hpk2 hsb2 hst0 hsn hst
 have hpk : MS w12 [[]] := hms.pick [some 1] _ rfl
 have hsu : ∀ x ∈ fl [[]], x ∈ fl [B2_12, []] := pick_sub [some 1] _ rfl
 replace hs1 := hs1.sub hsu
 replace hs7 := hs7.sub hsu
 replace hs9 := hs9.sub hsu
 replace hf12_1 := hf12_1.ro (plain_int _) (pick_out hms 0 rfl [some 1] [[]] rfl rfl)
 replace hms := hpk
 replace hfr : FR w.heap.size [] := hfr.pick [] _ rfl
 clear hpk hsu
 refine x_u 5 [(19, .tuple #[Vl a0_12 x11.1 c0_12, Vi x11.2]), (25, Vl a0_12 x11.1 c0_12), (26, Vi x11.2), (4, Vl a0_12 x11.1 c0_12), (5, Vi x11.2)] ?_
 refine x_ek ?_
 refine c_norm [(1, .slice (Ad b1 0) (([(([] : List UInt8), 900), (([] : List UInt8), 900)] : List ((List UInt8) × Int))).length 2), (2, .slice (Ad b7 0) (([[0, 1], [2]] : List (List Int))).length 2), (3, .slice (Ad b9 0) ([100, 100, 100]).length 3), (4, Vl a0_12 x11.1 c0_12), (5, Vi x11.2)] ⟨rfl, rfl, rfl, rfl, rfl, trivial⟩ (fun J => ?_)
 refine c_sp ?_
 refine x_u 3 [(28, .slice (Ad b1 0) (([(([] : List UInt8), 900), (([] : List UInt8), 900)] : List ((List UInt8) × Int))).length 2), (29, .slice (Ad b9 0) ([100, 100, 100]).length 3), (30, .slice (Ad b7 0) (([[0, 1], [2]] : List (List Int))).length 2)] ?_
 refine x_build (vs := [(0, Vi 1), (1, Vi 0), (2, Vi 1), (3, .bool true)]) (.agg #[Vi 1, Vi 0, Vi 1, .bool true]) rfl rfl rfl (fun _ _ => by kernel_rfl) ?_
 obtain ⟨x14, hx, h⟩ := bind_some h
 have hpk : MS w12 ([] ++ [[]]) := hms.pick [some 0] _ rfl
 have hsb0 : ∀ x ∈ fl ([] ++ [[]]), x ∈ fl [[]] := pick_sub [some 0] _ rfl
 have hsb : ∀ x ∈ fl ([] ++ [(fl [[]])]), x ∈ fl [[]] := fun x hx => hsb0 x (fl_unfold x hx)
 have hcall := inventory_Apply_w (Ad b1 0) 2 ([(([] : List UInt8), 900), (([] : List UInt8), 900)] : List ((List UInt8) × Int)) (Ad b9 0) 3 ([100, 100, 100]) (Ad b7 0) 2 ([[0, 1], [2]] : List (List Int)) 1 0 1 true _ w12 (fl [[]]) (MS.fold (P := []) hpk) (hs1.sub hsb) (hs9.sub hsb) (hs7.sub hsb) hx
 refine x_call 9 #[] #[] [.slice (Ad b1 0) (([(([] : List UInt8), 900), (([] : List UInt8), 900)] : List ((List UInt8) × Int))).length 2, .slice (Ad b9 0) ([100, 100, 100]).length 3, .slice (Ad b7 0) (([[0, 1], [2]] : List (List Int))).length 2, .agg #[Vi 1, Vi 0, Vi 1, .bool true]] _ rfl rfl rfl rfl hcall ?_
 rintro v w15 ⟨a0_15, c0_15, B2_15, rfl, he15, hmn15, hfn15, hf15_1⟩
 clear hcall hx
 refine inl1 ?_
 have hpk2 : MS w12 ([] ++ [[]]) := hms.pick [some 0] _ rfl
 have hsb2 : ∀ x ∈ fl ([] ++ [[]]), x ∈ fl [[]] := pick_sub [some 0] _ rfl
 have hst0 := Stp.call (LS := [[]]) (res := [B2_15]) (par := []) (R := [[]]) he15 (fun b hb => hsb2 b (fl_left' (P := []) b hb)) hfn15 (NP.init _ _) (fun x hx => hsb2 x (fl_right' (P := []) x hx))
 have hsn : ∀ x ∈ fl [B2_15, []], x ∈ fl ([B2_15] ++ ([] ++ [[]])) := pick_sub [some 0, some 1] _ rfl
 have hst := hst0.res hsn
 replace hs1 := hs1.step hst
 replace hs7 := hs7.step hst
 replace hs9 := hs9.step hst
 replace hf12_1 := hf12_1.step hst
 replace hms : MS w15 [B2_15, []] := (MS.call (P := []) (R := [[]]) (res := [B2_15]) (par := []) hpk2 he15 hmn15 hfn15 (NP.init _ _)).pick [some 0, some 1] _ rfl
 have hfr2 : FR w.heap.size [B2_15] := (FR.cons (fun b hb => Nat.le_trans hev.size (hfn15.at 0 rfl b hb)) (FR.nil _))
 replace hev := hev.ext he15
 replace hfr := hfr2
 clear hfr2
 clear hpk hsb hsb0 hpk2 hsb2 hst0 hsn hst
 have hpk : MS w15 [[]] := hms.pick [some 1] _ rfl
 have hsu : ∀ x ∈ fl [[]], x ∈ fl [B2_15, []] := pick_sub [some 1] _ rfl
 replace hs1 := hs1.sub hsu
 replace hs7 := hs7.sub hsu
 replace hs9 := hs9.sub hsu
 replace hf12_1 := hf12_1.sub hsu
 replace hf15_1 := hf15_1.ro (plain_int _) (pick_out hms 0 rfl [some 1] [[]] rfl rfl)
 replace hms := hpk
 replace hfr : FR w.heap.size [] := hfr.pick [] _ rfl
 clear hpk hsu
 refine x_u 5 [(27, .tuple #[Vl a0_15 x14.1 c0_15, Vi x14.2]), (33, Vl a0_15 x14.1 c0_15), (34, Vi x14.2), (6, Vl a0_15 x14.1 c0_15), (7, Vi x14.2)] ?_
 refine x_ek ?_
 refine c_sp ?_
 refine x_u 3 [(36, .slice (Ad b1 0) (([(([] : List UInt8), 900), (([] : List UInt8), 900)] : List ((List UInt8) × Int))).length 2), (37, .slice (Ad b9 0) ([100, 100, 100]).length 3), (38, .slice (Ad b7 0) (([[0, 1], [2]] : List (List Int))).length 2)] ?_
 refine x_build (vs := [(0, Vi 2), (1, Vi 0), (2, Vi 1)]) (.agg #[Vi 2, Vi 0, Vi 1, .bool false]) rfl rfl rfl (fun _ _ => by kernel_rfl) ?_
 obtain ⟨x17, hx, h⟩ := bind_some h
 have hpk : MS w15 ([] ++ [[]]) := hms.pick [some 0] _ rfl
 have hsb0 : ∀ x ∈ fl ([] ++ [[]]), x ∈ fl [[]] := pick_sub [some 0] _ rfl
 have hsb : ∀ x ∈ fl ([] ++ [(fl [[]])]), x ∈ fl [[]] := fun x hx => hsb0 x (fl_unfold x hx)
 have hcall := inventory_Apply_w (Ad b1 0) 2 ([(([] : List UInt8), 900), (([] : List UInt8), 900)] : List ((List UInt8) × Int)) (Ad b9 0) 3 ([100, 100, 100]) (Ad b7 0) 2 ([[0, 1], [2]] : List (List Int)) 2 0 1 false _ w15 (fl [[]]) (MS.fold (P := []) hpk) (hs1.sub hsb) (hs9.sub hsb) (hs7.sub hsb) hx
 refine x_call 9 #[] #[] [.slice (Ad b1 0) (([(([] : List UInt8), 900), (([] : List UInt8), 900)] : List ((List UInt8) × Int))).length 2, .slice (Ad b9 0) ([100, 100, 100]).length 3, .slice (Ad b7 0) (([[0, 1], [2]] : List (List Int))).length 2, .agg #[Vi 2, Vi 0, Vi 1, .bool false]] _ rfl rfl rfl rfl hcall ?_
 rintro v w18 ⟨a0_18, c0_18, B2_18, rfl, he18, hmn18, hfn18, hf18_1⟩
 clear hcall hx
 refine inl1 ?_
 have hpk2 : MS w15 ([] ++ [[]]) := hms.pick [some 0] _ rfl
 have hsb2 : ∀ x ∈ fl ([] ++ [[]]), x ∈ fl [[]] := pick_sub [some 0] _ rfl
 have hst0 := Stp.call (LS := [[]]) (res := [B2_18]) (par := []) (R := [[]]) he18 (fun b hb => hsb2 b (fl_left' (P := []) b hb)) hfn18 (NP.init _ _) (fun x hx => hsb2 x (fl_right' (P := []) x hx))
 have hsn : ∀ x ∈ fl [B2_18, []], x ∈ fl ([B2_18] ++ ([] ++ [[]])) := pick_sub [some 0, some 1] _ rfl
 have hst := hst0.res hsn
 replace hs1 := hs1.step hst
 replace hs7 := hs7.step hst
 replace hs9 := hs9.step hst
 replace hf12_1 := hf12_1.step hst
 replace hf15_1 := hf15_1.step hst
 replace hms : MS w18 [B2_18, []] := (MS.call (P := []) (R := [[]]) (res := [B2_18]) (par := []) hpk2 he18 hmn18 hfn18 (NP.init _ _)).pick [some 0, some 1] _ rfl
 have hfr2 : FR w.heap.size [B2_18] := (FR.cons (fun b hb => Nat.le_trans hev.size (hfn18.at 0 rfl b hb)) (FR.nil _))
 replace hev := hev.ext he18
 replace hfr := hfr2
 clear hfr2
 clear hpk hsb hsb0 hpk2 hsb2 hst0 hsn hst
 have hpk : MS w18 [[]] := hms.pick [some 1] _ rfl
 have hsu : ∀ x ∈ fl [[]], x ∈ fl [B2_18, []] := pick_sub [some 1] _ rfl
 replace hs1 := hs1.sub hsu
 replace hs7 := hs7.sub hsu
 replace hs9 := hs9.sub hsu
 replace hf12_1 := hf12_1.sub hsu
 replace hf15_1 := hf15_1.sub hsu
 replace hf18_1 := hf18_1.ro (plain_int _) (pick_out hms 0 rfl [some 1] [[]] rfl rfl)
 replace hms := hpk
 replace hfr : FR w.heap.size [] := hfr.pick [] _ rfl
 clear hpk hsu
 refine x_u 5 [(35, .tuple #[Vl a0_18 x17.1 c0_18, Vi x17.2]), (41, Vl a0_18 x17.1 c0_18), (42, Vi x17.2), (8, Vl a0_18 x17.1 c0_18), (9, Vi x17.2)] ?_
 refine x_ek ?_
 refine c_norm [(2, .slice (Ad b7 0) (([[0, 1], [2]] : List (List Int))).length 2), (4, Vl a0_12 x11.1 c0_12), (5, Vi x11.2), (6, Vl a0_15 x14.1 c0_15), (7, Vi x14.2), (9, Vi x17.2)] ⟨rfl, rfl, rfl, rfl, rfl, rfl, trivial⟩ (fun J => ?_)
 refine c_sp ?_
 refine x_u 1 [(44, .slice (Ad b7 0) (([[0, 1], [2]] : List (List Int))).length 2)] ?_
 obtain ⟨x20, hx, h⟩ := bind_some h
 have hpk : MS w18 ([] ++ [[]]) := hms.pick [some 0] _ rfl
 have hsb0 : ∀ x ∈ fl ([] ++ [[]]), x ∈ fl [[]] := pick_sub [some 0] _ rfl
 have hsb : ∀ x ∈ fl ([] ++ [(fl [[]])]), x ∈ fl [[]] := fun x hx => hsb0 x (fl_unfold x hx)
 have hcall := inventory_String_w (Ad b7 0) 2 ([[0, 1], [2]] : List (List Int)) 0 1 2 _ w18 (fl [[]]) (MS.fold (P := []) hpk) (hs7.sub hsb) hx
 refine x_call 26 #[] #[] [.slice (Ad b7 0) (([[0, 1], [2]] : List (List Int))).length 2, Vi 0, Vi 1, Vi 2] _ rfl rfl rfl rfl hcall ?_
 rintro v w21 ⟨a0_21, c0_21, rfl, he21, hmn21, hfn21, hf21_1⟩
 clear hcall hx
 refine inl1 ?_
 have hpk2 : MS w18 ([] ++ [[]]) := hms.pick [some 0] _ rfl
 have hsb2 : ∀ x ∈ fl ([] ++ [[]]), x ∈ fl [[]] := pick_sub [some 0] _ rfl
 have hst0 := Stp.call (LS := [[]]) (res := [blk a0_21]) (par := []) (R := [[]]) he21 (fun b hb => hsb2 b (fl_left' (P := []) b hb)) hfn21 (NP.init _ _) (fun x hx => hsb2 x (fl_right' (P := []) x hx))
 have hsn : ∀ x ∈ fl [blk a0_21, []], x ∈ fl ([blk a0_21] ++ ([] ++ [[]])) := pick_sub [some 0, some 1] _ rfl
 have hst := hst0.res hsn
 replace hs7 := hs7.step hst
 replace hf12_1 := hf12_1.step hst
 replace hf15_1 := hf15_1.step hst
 replace hms : MS w21 [blk a0_21, []] := (MS.call (P := []) (R := [[]]) (res := [blk a0_21]) (par := []) hpk2 he21 hmn21 hfn21 (NP.init _ _)).pick [some 0, some 1] _ rfl
 have hfr2 : FR w.heap.size [blk a0_21] := (FR.cons (fun b hb => Nat.le_trans hev.size (hfn21.at 0 rfl b hb)) (FR.nil _))
 replace hev := hev.ext he21
 replace hfr := hfr2
 clear hfr2
 replace hf21_1 := OwnS.plain (M' := fl [blk a0_21, []]) (plain_prod (plain_int _) (plain_prod (plain_int _) (plain_prod (plain_int _) plain_bool))) hf21_1
 clear hpk hsb hsb0 hpk2 hsb2 hst0 hsn hst
 have hpk : MS w21 [[]] := hms.pick [some 1] _ rfl
 have hsu : ∀ x ∈ fl [[]], x ∈ fl [blk a0_21, []] := pick_sub [some 1] _ rfl
 replace hs7 := hs7.sub hsu
 replace hf12_1 := hf12_1.sub hsu
 replace hf15_1 := hf15_1.sub hsu
 replace hf21_1 := hf21_1.ro hsu (pick_out hms 0 rfl [some 1] [[]] rfl rfl)
 replace hms := hpk
 replace hfr : FR w.heap.size [] := hfr.pick [] _ rfl
 clear hpk hsu
 refine x_u 5 [(43, .tuple #[Vl a0_21 x20.1 c0_21, Vi x20.2]), (46, Vl a0_21 x20.1 c0_21), (47, Vi x20.2), (10, Vl a0_21 x20.1 c0_21), (11, Vi x20.2)] ?_
 refine x_ek ?_
 refine c_sp ?_
 refine x_u 3 [(48, Vi x11.2), (49, .bool (x11.2 == 0)), (50, .bool (x11.2 == 0))] ?_
 refine x_if 50 (x11.2 == 0) rfl h (fun h => ?_) (fun h => ?_)
 · refine x_u 1 [(51, Vl a0_12 x11.1 c0_12)] ?_
   refine x_buildSlice (vs := [(0, Vi 0)]) #[Vi 0] 3 rfl rfl rfl (by kernel_rfl) (fun b23 w23 hq23 hb23 he23 hz23 => ?_)
   refine inl1 ?_
   have hms0 := hms
   have hst := Stp.ext (ls := [[]]) he23
   replace hf12_1 := hf12_1.step hst
   replace hf15_1 := hf15_1.step hst
   replace hf21_1 := hf21_1.step hst
   replace hms := hms.ev he23
   replace hev := hev.ext he23
   have hs23 : SlR (eInt .i64) w23 (fl [[]]) (Ad b23 0) 1 ([0]) := ro_of_box hms0 hq23 hb23 rfl rfl (cells_at (cs := [Vi 0]) (CellsOf.cons (c := [Vi 0]) rfl CellsOf.nil))
   clear hb23 hms0
   refine x_buildSlice (vs := [(0, Vi 2), (1, Vi 1)]) #[Vi 2, Vi 1] 3 rfl rfl rfl (by kernel_rfl) (fun b25 w25 hq25 hb25 he25 hz25 => ?_)
   refine inl1 ?_
   have hms0 := hms
   have hst := Stp.ext (ls := [[]]) he25
   replace hf12_1 := hf12_1.step hst
   replace hf15_1 := hf15_1.step hst
   replace hf21_1 := hf21_1.step hst
   replace hs23 := hs23.step hst
   replace hms := hms.ev he25
   replace hev := hev.ext he25
   have hs25 : SlR (eInt .i64) w25 (fl [[]]) (Ad b25 0) 2 ([2, 1]) := ro_of_box hms0 hq25 hb25 rfl rfl (cells_at (cs := [Vi 2, Vi 1]) (CellsOf.cons (c := [Vi 2]) rfl (CellsOf.cons (c := [Vi 1]) rfl CellsOf.nil)))
   clear hb25 hms0
   refine x_buildSlice (vs := [(0, .slice (Ad b23 0) ([0]).length 1), (1, .slice (Ad b25 0) ([2, 1]).length 2)]) #[.slice (Ad b23 0) ([0]).length 1, .slice (Ad b25 0) ([2, 1]).length 2] 22 rfl rfl rfl (by kernel_rfl) (fun b27 w27 hq27 hb27 he27 hz27 => ?_)
   refine inl1 ?_
   have hms0 := hms
   have hst := Stp.ext (ls := [[]]) he27
   replace hf12_1 := hf12_1.step hst
   replace hf15_1 := hf15_1.step hst
   replace hf21_1 := hf21_1.step hst
   replace hs23 := hs23.step hst
   replace hs25 := hs25.step hst
   replace hms := hms.ev he27
   replace hev := hev.ext he27
   have hs27 : SlR (eSl (eInt .i64)) w27 (fl [[]]) (Ad b27 0) 2 ([[0], [2, 1]] : List (List Int)) := ro_of_box hms0 hq27 hb27 rfl rfl (cells_at (cs := [.slice (Ad b23 0) ([0]).length 1, .slice (Ad b25 0) ([2, 1]).length 2]) (CellsOf.cons (c := [.slice (Ad b23 0) ([0]).length 1]) ⟨(Ad b23 0), 1, rfl, hs23⟩ (CellsOf.cons (c := [.slice (Ad b25 0) ([2, 1]).length 2]) ⟨(Ad b25 0), 2, rfl, hs25⟩ CellsOf.nil)))
   clear hb27 hms0
   obtain ⟨x29, hx, h⟩ := bind_some h
   have hpk : MS w27 ([] ++ [[]]) := hms.pick [some 0] _ rfl
   have hsb0 : ∀ x ∈ fl ([] ++ [[]]), x ∈ fl [[]] := pick_sub [some 0] _ rfl
   have hsb : ∀ x ∈ fl ([] ++ [(fl [[]])]), x ∈ fl [[]] := fun x hx => hsb0 x (fl_unfold x hx)
   have hcall := gen_Lists_w a0_12 c0_12 x11.1 (Ad b27 0) 2 ([[0], [2, 1]] : List (List Int)) _ w27 (fl [[]]) (MS.fold (P := []) hpk) (hf12_1.sub hsb) (hs27.sub hsb) hx
   refine x_call 19 #[] #[] [Vl a0_12 x11.1 c0_12, .slice (Ad b27 0) (([[0], [2, 1]] : List (List Int))).length 2] _ rfl rfl rfl rfl hcall ?_
   rintro v w30 ⟨rfl, he30⟩
   clear hcall hx
   refine inl1 ?_
   have hst := Stp.ext (ls := [[]]) he30
   replace hf12_1 := hf12_1.step hst
   replace hf15_1 := hf15_1.step hst
   replace hf21_1 := hf21_1.step hst
   replace hs23 := hs23.step hst
   replace hs25 := hs25.step hst
   replace hs27 := hs27.step hst
   replace hms := hms.ev he30
   replace hev := hev.ext he30
   clear hpk hsb hsb0
   refine x_u 2 [(56, .bool x29), (57, .bool x29)] ?_
   refine x_if 57 x29 rfl h (fun h => ?_) (fun h => ?_)
   · refine x_u 4 [(58, Vi x14.2), (59, .bool (x14.2 == 0)), (60, .bool (x14.2 == 0)), (61, .bool (x14.2 == 0))] ?_
     refine x_if 61 (x14.2 == 0) rfl h (fun h => ?_) (fun h => ?_)
     · refine x_u 1 [(62, Vl a0_15 x14.1 c0_15)] ?_
       refine x_buildSlice (vs := [(0, Vi 0)]) #[Vi 0] 3 rfl rfl rfl (by kernel_rfl) (fun b31 w31 hq31 hb31 he31 hz31 => ?_)
       refine inl1 ?_
       have hms0 := hms
       have hst := Stp.ext (ls := [[]]) he31
       replace hf12_1 := hf12_1.step hst
       replace hf15_1 := hf15_1.step hst
       replace hf21_1 := hf21_1.step hst
       replace hs23 := hs23.step hst
       replace hs25 := hs25.step hst
       replace hs27 := hs27.step hst
       replace hms := hms.ev he31
       replace hev := hev.ext he31
       have hs31 : SlR (eInt .i64) w31 (fl [[]]) (Ad b31 0) 1 ([0]) := ro_of_box hms0 hq31 hb31 rfl rfl (cells_at (cs := [Vi 0]) (CellsOf.cons (c := [Vi 0]) rfl CellsOf.nil))
       clear hb31 hms0
       refine x_buildSlice (vs := [(0, Vi 1), (1, Vi 2)]) #[Vi 1, Vi 2] 3 rfl rfl rfl (by kernel_rfl) (fun b33 w33 hq33 hb33 he33 hz33 => ?_)
       refine inl1 ?_
       have hms0 := hms
       have hst := Stp.ext (ls := [[]]) he33
       replace hf12_1 := hf12_1.step hst
       replace hf15_1 := hf15_1.step hst
       replace hf21_1 := hf21_1.step hst
       replace hs23 := hs23.step hst
       replace hs25 := hs25.step hst
       replace hs27 := hs27.step hst
       replace hs31 := hs31.step hst
       replace hms := hms.ev he33
       replace hev := hev.ext he33
       have hs33 : SlR (eInt .i64) w33 (fl [[]]) (Ad b33 0) 2 ([1, 2]) := ro_of_box hms0 hq33 hb33 rfl rfl (cells_at (cs := [Vi 1, Vi 2]) (CellsOf.cons (c := [Vi 1]) rfl (CellsOf.cons (c := [Vi 2]) rfl CellsOf.nil)))
       clear hb33 hms0
       refine x_buildSlice (vs := [(0, .slice (Ad b31 0) ([0]).length 1), (1, .slice (Ad b33 0) ([1, 2]).length 2)]) #[.slice (Ad b31 0) ([0]).length 1, .slice (Ad b33 0) ([1, 2]).length 2] 22 rfl rfl rfl (by kernel_rfl) (fun b35 w35 hq35 hb35 he35 hz35 => ?_)
       refine inl1 ?_
       have hms0 := hms
       have hst := Stp.ext (ls := [[]]) he35
       replace hf12_1 := hf12_1.step hst
       replace hf15_1 := hf15_1.step hst
       replace hf21_1 := hf21_1.step hst
       replace hs23 := hs23.step hst
       replace hs25 := hs25.step hst
       replace hs27 := hs27.step hst
       replace hs31 := hs31.step hst
       replace hs33 := hs33.step hst
       replace hms := hms.ev he35
       replace hev := hev.ext he35
       have hs35 : SlR (eSl (eInt .i64)) w35 (fl [[]]) (Ad b35 0) 2 ([[0], [1, 2]] : List (List Int)) := ro_of_box hms0 hq35 hb35 rfl rfl (cells_at (cs := [.slice (Ad b31 0) ([0]).length 1, .slice (Ad b33 0) ([1, 2]).length 2]) (CellsOf.cons (c := [.slice (Ad b31 0) ([0]).length 1]) ⟨(Ad b31 0), 1, rfl, hs31⟩ (CellsOf.cons (c := [.slice (Ad b33 0) ([1, 2]).length 2]) ⟨(Ad b33 0), 2, rfl, hs33⟩ CellsOf.nil)))
       clear hb35 hms0
       obtain ⟨x37, hx, h⟩ := bind_some h
       have hpk : MS w35 ([] ++ [[]]) := hms.pick [some 0] _ rfl
       have hsb0 : ∀ x ∈ fl ([] ++ [[]]), x ∈ fl [[]] := pick_sub [some 0] _ rfl
       have hsb : ∀ x ∈ fl ([] ++ [(fl [[]])]), x ∈ fl [[]] := fun x hx => hsb0 x (fl_unfold x hx)
       have hcall := gen_Lists_w a0_15 c0_15 x14.1 (Ad b35 0) 2 ([[0], [1, 2]] : List (List Int)) _ w35 (fl [[]]) (MS.fold (P := []) hpk) (hf15_1.sub hsb) (hs35.sub hsb) hx
       refine x_call 19 #[] #[] [Vl a0_15 x14.1 c0_15, .slice (Ad b35 0) (([[0], [1, 2]] : List (List Int))).length 2] _ rfl rfl rfl rfl hcall ?_
       rintro v w38 ⟨rfl, he38⟩
       clear hcall hx
       refine inl1 ?_
       have hst := Stp.ext (ls := [[]]) he38
       replace hf12_1 := hf12_1.step hst
       replace hf15_1 := hf15_1.step hst
       replace hf21_1 := hf21_1.step hst
       replace hs23 := hs23.step hst
       replace hs25 := hs25.step hst
       replace hs27 := hs27.step hst
       replace hs31 := hs31.step hst
       replace hs33 := hs33.step hst
       replace hs35 := hs35.step hst
       replace hms := hms.ev he38
       replace hev := hev.ext he38
       clear hpk hsb hsb0
       refine x_u 2 [(67, .bool x37), (68, .bool x37)] ?_
       refine x_if 68 x37 rfl h (fun h => ?_) (fun h => ?_)
       · refine x_u 4 [(69, Vi x17.2), (70, .bool (x17.2 == 17)), (71, .bool (x17.2 == 17)), (72, .bool (x17.2 == 17))] ?_
         refine x_if 72 (x17.2 == 17) rfl h (fun h => ?_) (fun h => ?_)
         · refine x_u 4 [(73, Vi x20.2), (74, .bool (x20.2 == 0)), (75, .bool (x20.2 == 0)), (76, .bool (x20.2 == 0))] ?_
           refine x_if 76 (x20.2 == 0) rfl h (fun h => ?_) (fun h => ?_)
           · refine x_u 1 [(77, Vl a0_21 x20.1 c0_21)] ?_
             refine x_build (vs := [(0, Vi 0), (1, Vi 0), (2, Vi 1)]) (.agg #[Vi 0, Vi 0, Vi 1, .bool false]) rfl rfl rfl (fun _ _ => by kernel_rfl) ?_
             refine x_build (vs := [(0, Vi 1), (1, Vi 0), (2, Vi 1)]) (.agg #[Vi 1, Vi 0, Vi 1, .bool false]) rfl rfl rfl (fun _ _ => by kernel_rfl) ?_
             refine x_buildSlice (vs := [(0, .agg #[Vi 0, Vi 0, Vi 1, .bool false]), (1, .agg #[Vi 1, Vi 0, Vi 1, .bool false])]) #[Vi 0, Vi 0, Vi 1, .bool false, Vi 1, Vi 0, Vi 1, .bool false] 30 rfl rfl rfl (by kernel_rfl) (fun b39 w39 hq39 hb39 he39 hz39 => ?_)
             refine inl1 ?_
             have hms0 := hms
             have hst := Stp.ext (ls := [[]]) he39
             replace hf12_1 := hf12_1.step hst
             replace hf15_1 := hf15_1.step hst
             replace hf21_1 := hf21_1.step hst
             replace hs23 := hs23.step hst
             replace hs25 := hs25.step hst
             replace hs27 := hs27.step hst
             replace hs31 := hs31.step hst
             replace hs33 := hs33.step hst
             replace hs35 := hs35.step hst
             replace hms := hms.ev he39
             replace hev := hev.ext he39
             have hs39 : SlR (eProd (eInt .i64) (eProd (eInt .i64) (eProd (eInt .i64) eBool))) w39 (fl [[]]) (Ad b39 0) 2 ([(0, 0, 1, false), (1, 0, 1, false)] : List (Int × Int × Int × Bool)) := ro_of_box hms0 hq39 hb39 rfl rfl (cells_at (cs := [Vi 0, Vi 0, Vi 1, .bool false, Vi 1, Vi 0, Vi 1, .bool false]) (CellsOf.cons (c := [Vi 0, Vi 0, Vi 1, .bool false]) ⟨[Vi 0], [Vi 0, Vi 1, .bool false], rfl, rfl, ⟨[Vi 0], [Vi 1, .bool false], rfl, rfl, ⟨[Vi 1], [.bool false], rfl, rfl, rfl⟩⟩⟩ (CellsOf.cons (c := [Vi 1, Vi 0, Vi 1, .bool false]) ⟨[Vi 1], [Vi 0, Vi 1, .bool false], rfl, rfl, ⟨[Vi 0], [Vi 1, .bool false], rfl, rfl, ⟨[Vi 1], [.bool false], rfl, rfl, rfl⟩⟩⟩ CellsOf.nil)))
             clear hb39 hms0
             obtain ⟨x41, hx, h⟩ := bind_some h
             have hpk : MS w39 ([] ++ [[]]) := hms.pick [some 0] _ rfl
             have hsb0 : ∀ x ∈ fl ([] ++ [[]]), x ∈ fl [[]] := pick_sub [some 0] _ rfl
             have hsb : ∀ x ∈ fl ([] ++ [(fl [[]])]), x ∈ fl [[]] := fun x hx => hsb0 x (fl_unfold x hx)
             have hcall := yardgen_SameShifts_w a0_21 c0_21 x20.1 (Ad b39 0) 2 ([(0, 0, 1, false), (1, 0, 1, false)] : List (Int × Int × Int × Bool)) _ w39 (fl [[]]) (MS.fold (P := []) hpk) (hf21_1.sub hsb) (hs39.sub hsb) hx
             refine x_call 27 #[] #[] [Vl a0_21 x20.1 c0_21, .slice (Ad b39 0) (([(0, 0, 1, false), (1, 0, 1, false)] : List (Int × Int × Int × Bool))).length 2] _ rfl rfl rfl rfl hcall ?_
             rintro v w42 ⟨rfl, he42⟩
             clear hcall hx
             refine inl1 ?_
             have hst := Stp.ext (ls := [[]]) he42
             replace hf12_1 := hf12_1.step hst
             replace hf15_1 := hf15_1.step hst
             replace hf21_1 := hf21_1.step hst
             replace hs23 := hs23.step hst
             replace hs25 := hs25.step hst
             replace hs27 := hs27.step hst
             replace hs31 := hs31.step hst
             replace hs33 := hs33.step hst
             replace hs35 := hs35.step hst
             replace hs39 := hs39.step hst
             replace hms := hms.ev he42
             replace hev := hev.ext he42
             clear hpk hsb hsb0
             refine x_u 2 [(82, .bool x41), (0, .bool x41)] ?_
             refine x_ek ?_
             refine c_norm [(0, .bool x41)] ⟨rfl, trivial⟩ (fun J => ?_)
             refine c_ret ?_
             refine r_ret (r_vals [.bool x41] ⟨rfl, trivial⟩ ?_)
             have hx := some_inj h
             subst hx
             exact ⟨rfl, hev⟩
           refine x_u 7 [(77, undef), (78, undef), (79, undef), (80, undef), (81, undef), (82, .bool false), (0, .bool false)] ?_
           refine x_ek ?_
           refine c_norm [(0, .bool false)] ⟨rfl, trivial⟩ (fun J => ?_)
           refine c_ret ?_
           refine r_ret (r_vals [.bool false] ⟨rfl, trivial⟩ ?_)
           have hx := some_inj h
           subst hx
           exact ⟨rfl, hev⟩
         refine x_u 11 [(73, undef), (74, undef), (75, .bool false), (76, .bool false), (77, undef), (78, undef), (79, undef), (80, undef), (81, undef), (82, .bool false), (0, .bool false)] ?_
         refine x_ek ?_
         refine c_norm [(0, .bool false)] ⟨rfl, trivial⟩ (fun J => ?_)
         refine c_ret ?_
         refine r_ret (r_vals [.bool false] ⟨rfl, trivial⟩ ?_)
         have hx := some_inj h
         subst hx
         exact ⟨rfl, hev⟩
       refine x_u 15 [(69, undef), (70, undef), (71, .bool false), (72, .bool false), (73, undef), (74, undef), (75, .bool false), (76, .bool false), (77, undef), (78, undef), (79, undef), (80, undef), (81, undef), (82, .bool false), (0, .bool false)] ?_
       refine x_ek ?_
       refine c_norm [(0, .bool false)] ⟨rfl, trivial⟩ (fun J => ?_)
       refine c_ret ?_
       refine r_ret (r_vals [.bool false] ⟨rfl, trivial⟩ ?_)
       have hx := some_inj h
       subst hx
       exact ⟨rfl, hev⟩
     refine x_u 22 [(62, undef), (63, undef), (64, undef), (65, undef), (66, undef), (67, .bool false), (68, .bool false), (69, undef), (70, undef), (71, .bool false), (72, .bool false), (73, undef), (74, undef), (75, .bool false), (76, .bool false), (77, undef), (78, undef), (79, undef), (80, undef), (81, undef), (82, .bool false), (0, .bool false)] ?_
     refine x_ek ?_
     refine c_norm [(0, .bool false)] ⟨rfl, trivial⟩ (fun J => ?_)
     refine c_ret ?_
     refine r_ret (r_vals [.bool false] ⟨rfl, trivial⟩ ?_)
     have hx := some_inj h
     subst hx
     exact ⟨rfl, hev⟩
   refine x_u 26 [(58, undef), (59, undef), (60, .bool false), (61, .bool false), (62, undef), (63, undef), (64, undef), (65, undef), (66, undef), (67, .bool false), (68, .bool false), (69, undef), (70, undef), (71, .bool false), (72, .bool false), (73, undef), (74, undef), (75, .bool false), (76, .bool false), (77, undef), (78, undef), (79, undef), (80, undef), (81, undef), (82, .bool false), (0, .bool false)] ?_
   refine x_ek ?_
   refine c_norm [(0, .bool false)] ⟨rfl, trivial⟩ (fun J => ?_)
   refine c_ret ?_
   refine r_ret (r_vals [.bool false] ⟨rfl, trivial⟩ ?_)
   have hx := some_inj h
   subst hx
   exact ⟨rfl, hev⟩
 refine x_u 33 [(51, undef), (52, undef), (53, undef), (54, undef), (55, undef), (56, .bool false), (57, .bool false), (58, undef), (59, undef), (60, .bool false), (61, .bool false), (62, undef), (63, undef), (64, undef), (65, undef), (66, undef), (67, .bool false), (68, .bool false), (69, undef), (70, undef), (71, .bool false), (72, .bool false), (73, undef), (74, undef), (75, .bool false), (76, .bool false), (77, undef), (78, undef), (79, undef), (80, undef), (81, undef), (82, .bool false), (0, .bool false)] ?_
 refine x_ek ?_
 refine c_norm [(0, .bool false)] ⟨rfl, trivial⟩ (fun J => ?_)
 refine c_ret ?_
 refine r_ret (r_vals [.bool false] ⟨rfl, trivial⟩ ?_)
 have hx := some_inj h
 subst hx
 exact ⟨rfl, hev⟩
end Go.Proofs.Ytgeceohdppecgaa
