
/- Walks, printed by program: each function returns what the partial function of the same name returns. Conditions: those of each theorem. -/
import Derived.Test.YtlejnkhaphlooaaGreatGT
import Derived.Test.YtlejnkhaphlooaaGreatGlaw17items
import Derived.Test.YtlejnkhaphlooaaGreatGplanner
set_option linter.unusedVariables false
set_option linter.unusedSimpArgs false
set_option maxRecDepth 4000
namespace Go.Proofs.YtlejnkhaphlooaaGreat
open Go Go.V Go.Proofs
def law17_sane : Option Bool :=
((law17_items ([0, 0, 1])).bind fun x3 =>
((planner_Schemes x3).bind fun x6 =>
((law17_items ([1, 3, 0, 2])).bind fun x11 =>
((planner_Plan x11 ([500, 500, 500])).bind fun x16 =>
((planner_Items ([(([([98] : List UInt8)] : List (List UInt8)))] : List (List (List UInt8))) ([(([51, 49, 56, 48, 50, 55, 55, 51, 49, 50, 51, 55] : List UInt8), 100, 2, 100, 0, 0, false, ([97] : List UInt8))] : List ((List UInt8) × Int × Int × Int × Int × Int × Bool × (List UInt8)))).bind fun x32 =>
(if (x6.2 == 0) = true then
(if (((x6.1).length : Int) == 4) = true then
((idx x6.1 0).bind fun x35 =>
(if (x35.1 == 0 && (x35.2.1 == 0 && (x35.2.2.1 == 3 && (x35.2.2.2 == 1 && true)))) = true then
(if (x16.2.2 == 0) = true then
(if (x16.1.1.2 == 1) = true then
(if (x16.1.2.1.1.1 == 2) = true then
some (x32.2 == 13)
else
some false)
else
some false)
else
some false)
else
some false))
else
some false)
else
some false))))))
theorem law17_sane_w (r : Bool) (w : World) (h : law17_sane = some r) : CallVC Tryz.prog 18 [] w fun v w' => v = .bool r ∧ Ev [] w w' := by
 refine calls_vc hmx Tryz.func18 (by kernel_rfl) rfl (rs := [.tmp 0]) rfl (by kernel_rfl) (args := []) rfl ?_
 have hev : Ev [] w w := Ev.refl _ _
 have hms : MS w [[]] := ⟨List.pairwise_singleton _ _, fun l hl b hb => by simp only [List.mem_singleton] at hl; subst hl; cases hb⟩
 have hfr : FR w.heap.size [] := FR.nil _
 refine c_sp (x_u 1 [(0, .bool false)] (x_ek (c_sp (x_buildSlice (vs := [(0, Vi 0), (1, Vi 0), (2, Vi 1)]) #[Vi 0, Vi 0, Vi 1] 3 rfl rfl rfl (by kernel_rfl) (fun b1 w1 hq1 hb1 he1 hz1 => ?_)))))
 refine inl1 ?_
 have hms0 := hms
 replace hms := hms.ev he1
 replace hev := hev.ext he1
 have hs1 : SlR (eInt .i64) w1 (fl [[]]) (Ad b1 0) 3 ([0, 0, 1]) := ro_of_box hms0 hq1 hb1 rfl rfl (cells_at (cs := [Vi 0, Vi 0, Vi 1]) (CellsOf.cons (c := [Vi 0]) rfl (CellsOf.cons (c := [Vi 0]) rfl (CellsOf.cons (c := [Vi 1]) rfl CellsOf.nil))))
 clear hb1 hms0
 obtain ⟨x3, hx, h⟩ := bind_some h
 have hcall := law17_items_w (Ad b1 0) 3 ([0, 0, 1]) _ w1 (fl [[]]) (MS.fold (P := []) hms) (hs1.sub fl1) hx
 refine x_call 30 #[] #[] [.slice (Ad b1 0) ([0, 0, 1]).length 3] _ rfl rfl rfl rfl hcall ?_
 rintro v w4 ⟨a0_4, c0_4, rfl, he4, hmn4, hfn4, hf4_1⟩
 clear hcall hx
 refine inl1 ?_
 replace hms := MS.call0 [blk a0_4] [blk a0_4, []] hms he4 hmn4 hfn4 rfl
 have hfr2 := FR.call0 [blk a0_4] hev.size hfn4 hfr rfl
 replace hev := hev.ext he4
 replace hfr := hfr2
 clear hfr2
 replace hf4_1 := OwnS.plain (M' := fl [blk a0_4, []]) (plain_prod (plain_int _) (plain_prod (plain_int _) (plain_prod (plain_int _) (plain_int _)))) hf4_1
 have hpk := hms.pick [some 1] [[]] rfl
 have hsu := pick_sub (ls := [blk a0_4, []]) [some 1] [[]] rfl
 replace hf4_1 := hf4_1.ro hsu (pick_out hms 0 rfl [some 1] [[]] rfl rfl)
 replace hms := hpk
 replace hfr := hfr.pick [] [] rfl
 clear hpk hsu
 obtain ⟨x6, hx, h⟩ := bind_some h
 have hcall := planner_Schemes_w a0_4 c0_4 x3 _ w4 (fl [[]]) (MS.fold (P := []) hms) (hf4_1.sub fl1) hx
 refine x_call 20 #[] #[] [Vl a0_4 x3 c0_4] _ rfl rfl rfl rfl hcall ?_
 rintro v w7 ⟨a0_7, c0_7, rfl, he7, hmn7, hfn7, hf7_1⟩
 clear hcall hx
 refine inl1 ?_
 replace hms := MS.call0 [blk a0_7] [blk a0_7, []] hms he7 hmn7 hfn7 rfl
 have hfr2 := FR.call0 [blk a0_7] hev.size hfn7 hfr rfl
 replace hev := hev.ext he7
 replace hfr := hfr2
 clear hfr2
 replace hf7_1 := OwnS.plain (M' := fl [blk a0_7, []]) (plain_prod (plain_int _) (plain_prod (plain_int _) (plain_prod (plain_int _) (plain_int _)))) hf7_1
 have hpk := hms.pick [some 1] [[]] rfl
 have hsu := pick_sub (ls := [blk a0_7, []]) [some 1] [[]] rfl
 replace hf7_1 := hf7_1.ro hsu (pick_out hms 0 rfl [some 1] [[]] rfl rfl)
 replace hms := hpk
 replace hfr := hfr.pick [] [] rfl
 clear hpk hsu
 refine x_u 5 [(8, .tuple #[Vl a0_7 x6.1 c0_7, Vi x6.2]), (12, Vl a0_7 x6.1 c0_7), (13, Vi x6.2), (1, Vl a0_7 x6.1 c0_7), (2, Vi x6.2)] (x_ek (c_sp (x_buildSlice (vs := [(0, Vi 1), (1, Vi 3), (2, Vi 0), (3, Vi 2)]) #[Vi 1, Vi 3, Vi 0, Vi 2] 3 rfl rfl rfl (by kernel_rfl) (fun b9 w9 hq9 hb9 he9 hz9 => ?_))))
 refine inl1 ?_
 have hms0 := hms
 have hst := Stp.ext (ls := [[]]) he9
 replace hf7_1 := hf7_1.step hst
 replace hms := hms.ev he9
 replace hev := hev.ext he9
 have hs9 : SlR (eInt .i64) w9 (fl [[]]) (Ad b9 0) 4 ([1, 3, 0, 2]) := ro_of_box hms0 hq9 hb9 rfl rfl (cells_at (cs := [Vi 1, Vi 3, Vi 0, Vi 2]) (CellsOf.cons (c := [Vi 1]) rfl (CellsOf.cons (c := [Vi 3]) rfl (CellsOf.cons (c := [Vi 0]) rfl (CellsOf.cons (c := [Vi 2]) rfl CellsOf.nil)))))
 clear hb9 hms0
 obtain ⟨x11, hx, h⟩ := bind_some h
 have hcall := law17_items_w (Ad b9 0) 4 ([1, 3, 0, 2]) _ w9 (fl [[]]) (MS.fold (P := []) hms) (hs9.sub fl1) hx
 refine x_call 30 #[] #[] [.slice (Ad b9 0) ([1, 3, 0, 2]).length 4] _ rfl rfl rfl rfl hcall ?_
 rintro v w12 ⟨a0_12, c0_12, rfl, he12, hmn12, hfn12, hf12_1⟩
 clear hcall hx
 refine inl1 ?_
 have hst := Stp.call0 [[]] [blk a0_12] [blk a0_12, []] he12 hfn12 rfl
 replace hf7_1 := hf7_1.step hst
 replace hms := MS.call0 [blk a0_12] [blk a0_12, []] hms he12 hmn12 hfn12 rfl
 have hfr2 := FR.call0 [blk a0_12] hev.size hfn12 hfr rfl
 replace hev := hev.ext he12
 replace hfr := hfr2
 clear hfr2
 replace hf12_1 := OwnS.plain (M' := fl [blk a0_12, []]) (plain_prod (plain_int _) (plain_prod (plain_int _) (plain_prod (plain_int _) (plain_int _)))) hf12_1
 clear hst
 have hpk := hms.pick [some 1] [[]] rfl
 have hsu := pick_sub (ls := [blk a0_12, []]) [some 1] [[]] rfl
 replace hf7_1 := hf7_1.sub hsu
 replace hf12_1 := hf12_1.ro hsu (pick_out hms 0 rfl [some 1] [[]] rfl rfl)
 replace hms := hpk
 replace hfr := hfr.pick [] [] rfl
 clear hpk hsu
 refine x_buildSlice (vs := [(0, Vi 500), (1, Vi 500), (2, Vi 500)]) #[Vi 500, Vi 500, Vi 500] 3 rfl rfl rfl (by kernel_rfl) (fun b14 w14 hq14 hb14 he14 hz14 => ?_)
 refine inl1 ?_
 have hms0 := hms
 have hst := Stp.ext (ls := [[]]) he14
 replace hf7_1 := hf7_1.step hst
 replace hf12_1 := hf12_1.step hst
 replace hms := hms.ev he14
 replace hev := hev.ext he14
 have hs14 : SlR (eInt .i64) w14 (fl [[]]) (Ad b14 0) 3 ([500, 500, 500]) := ro_of_box hms0 hq14 hb14 rfl rfl (cells_at (cs := [Vi 500, Vi 500, Vi 500]) (CellsOf.cons (c := [Vi 500]) rfl (CellsOf.cons (c := [Vi 500]) rfl (CellsOf.cons (c := [Vi 500]) rfl CellsOf.nil))))
 clear hb14 hms0
 obtain ⟨x16, hx, h⟩ := bind_some h
 have hcall := planner_Plan_w a0_12 c0_12 x11 (Ad b14 0) 3 ([500, 500, 500]) _ w14 (fl [[]]) (MS.fold (P := []) hms) (hf12_1.sub fl1) (hs14.sub fl1) hx
 refine x_call 25 #[] #[] [Vl a0_12 x11 c0_12, .slice (Ad b14 0) ([500, 500, 500]).length 3] _ rfl rfl rfl rfl hcall ?_
 rintro v w17 ⟨a0_17, c0_17, a2_17, c2_17, a4_17, c4_17, a6_17, c6_17, a8_17, c8_17, rfl, he17, hmn17, hfn17, hf17_1, hf17_2, hf17_3, hf17_4, hf17_5⟩
 clear hcall hx
 refine inl1 ?_
 have hst := Stp.call0 [[]] [blk a0_17, blk a2_17, blk a4_17, blk a6_17, blk a8_17] [blk a0_17, blk a2_17, blk a4_17, blk a6_17, blk a8_17, []] he17 hfn17 rfl
 replace hf7_1 := hf7_1.step hst
 replace hms := MS.call0 [blk a0_17, blk a2_17, blk a4_17, blk a6_17, blk a8_17] [blk a0_17, blk a2_17, blk a4_17, blk a6_17, blk a8_17, []] hms he17 hmn17 hfn17 rfl
 have hfr2 := FR.call0 [blk a0_17, blk a2_17, blk a4_17, blk a6_17, blk a8_17] hev.size hfn17 hfr rfl
 replace hev := hev.ext he17
 replace hfr := hfr2
 clear hfr2
 clear hst
 have hpk := hms.pick [some 1, some 2, some 3, some 4, some 5] [blk a2_17, blk a4_17, blk a6_17, blk a8_17, []] rfl
 have hsu := pick_sub (ls := [blk a0_17, blk a2_17, blk a4_17, blk a6_17, blk a8_17, []]) [some 1, some 2, some 3, some 4, some 5] [blk a2_17, blk a4_17, blk a6_17, blk a8_17, []] rfl
 replace hf7_1 := hf7_1.sub hsu
 replace hms := hpk
 replace hfr := hfr.pick [some 1, some 2, some 3, some 4] [blk a2_17, blk a4_17, blk a6_17, blk a8_17] rfl
 clear hpk hsu
 have hpk := hms.pick [some 1, some 2, some 3, some 4] [blk a4_17, blk a6_17, blk a8_17, []] rfl
 have hsu := pick_sub (ls := [blk a2_17, blk a4_17, blk a6_17, blk a8_17, []]) [some 1, some 2, some 3, some 4] [blk a4_17, blk a6_17, blk a8_17, []] rfl
 replace hf7_1 := hf7_1.sub hsu
 replace hms := hpk
 replace hfr := hfr.pick [some 1, some 2, some 3] [blk a4_17, blk a6_17, blk a8_17] rfl
 clear hpk hsu
 have hpk := hms.pick [some 1, some 2, some 3] [blk a6_17, blk a8_17, []] rfl
 have hsu := pick_sub (ls := [blk a4_17, blk a6_17, blk a8_17, []]) [some 1, some 2, some 3] [blk a6_17, blk a8_17, []] rfl
 replace hf7_1 := hf7_1.sub hsu
 replace hms := hpk
 replace hfr := hfr.pick [some 1, some 2] [blk a6_17, blk a8_17] rfl
 clear hpk hsu
 have hpk := hms.pick [some 1, some 2] [blk a8_17, []] rfl
 have hsu := pick_sub (ls := [blk a6_17, blk a8_17, []]) [some 1, some 2] [blk a8_17, []] rfl
 replace hf7_1 := hf7_1.sub hsu
 replace hms := hpk
 replace hfr := hfr.pick [some 1] [blk a8_17] rfl
 clear hpk hsu
 have hpk := hms.pick [some 1] [[]] rfl
 have hsu := pick_sub (ls := [blk a8_17, []]) [some 1] [[]] rfl
 replace hf7_1 := hf7_1.sub hsu
 replace hms := hpk
 replace hfr := hfr.pick [] [] rfl
 clear hpk hsu
 refine x_u 4 [(14, .tuple #[.agg #[Vl a0_17 x16.1.1.1 c0_17, Vi x16.1.1.2, Vi x16.1.2.1.1.1, Vl a2_17 x16.1.2.1.1.2 c2_17, Vl a4_17 x16.1.2.1.2 c4_17, Vl a6_17 x16.1.2.2 c6_17], Vl a8_17 x16.2.1 c8_17, Vi x16.2.2]), (19, .agg #[Vl a0_17 x16.1.1.1 c0_17, Vi x16.1.1.2, Vi x16.1.2.1.1.1, Vl a2_17 x16.1.2.1.1.2 c2_17, Vl a4_17 x16.1.2.1.2 c4_17, Vl a6_17 x16.1.2.2 c6_17]), (20, Vl a8_17 x16.2.1 c8_17), (21, Vi x16.2.2)] (x_alloc (z := .agg #[.slice none 0 0, Vi 0, Vi 0, .slice none 0 0, .slice none 0 0, .slice none 0 0]) rfl rfl (by kernel_rfl) (fun b23 w23 hq23 hb23 he23 hz23 => ?_))
 replace hb23 : w23.heap[b23]? = some (.cells #[.slice none 0 0, Vi 0, Vi 0, .slice none 0 0, .slice none 0 0, .slice none 0 0] 67 (0, 0)) := hb23
 refine inl1 ?_
 have hst := Stp.box (ls := [[]]) he23 hq23
 replace hf7_1 := hf7_1.step hst
 replace hms := hms.box he23 hq23 hb23
 replace hfr := hfr.box hev.size hq23
 replace hev := hev.ext he23
 obtain ⟨w25, hr25, hb25, he25⟩ := store_boxagg 0 [Vl a0_17 x16.1.1.1 c0_17, Vi x16.1.1.2, Vi x16.1.2.1.1.1, Vl a2_17 x16.1.2.1.1.2 c2_17, Vl a4_17 x16.1.2.1.2 c4_17, Vl a6_17 x16.1.2.2 c6_17] #[Vl a0_17 x16.1.1.1 c0_17, Vi x16.1.1.2, Vi x16.1.2.1.1.1, Vl a2_17 x16.1.2.1.1.2 c2_17, Vl a4_17 x16.1.2.1.2 c4_17, Vl a6_17 x16.1.2.2 c6_17] tagg67 hb23 rfl rfl rfl
 refine x_store w25 (xv := Vp b23 0) (yv := .agg #[Vl a0_17 x16.1.1.1 c0_17, Vi x16.1.1.2, Vi x16.1.2.1.1.1, Vl a2_17 x16.1.2.1.1.2 c2_17, Vl a4_17 x16.1.2.1.2 c4_17, Vl a6_17 x16.1.2.2 c6_17]) rfl rfl rfl rfl hr25 (inl1 ?_)
 have hst := Stp.ev' (ls := [[b23], []]) he25 (mem_flat 0 rfl)
 replace hf7_1 := hf7_1.step hst
 replace hms := hms.ev he25
 replace hev := hev.then he25 (fun b hb => .inr (hfr.at 0 rfl b hb))
 replace hb23 := hb25
 refine x_u 2 [(4, Vl a8_17 x16.2.1 c8_17), (5, Vi x16.2.2)] (x_ek (c_nm [(1, Vl a0_7 x6.1 c0_7), (2, Vi x6.2), (3, Vp b23 0), (5, Vi x16.2.2)] (fun J => ?_)))
 refine c_sp (x_buildSlice (vs := [(0, Vs ([98] : List UInt8))]) #[Vs ([98] : List UInt8)] 9 rfl rfl rfl (by kernel_rfl) (fun b26 w26 hq26 hb26 he26 hz26 => ?_))
 refine inl1 ?_
 have hms0 := hms
 have hst := Stp.ext (ls := [[b23], []]) he26
 replace hf7_1 := hf7_1.step hst
 replace hb23 := he26.box hb23 nn
 replace hms := hms.ev he26
 replace hev := hev.ext he26
 have hs26 : SlR eStr w26 (fl [[b23], []]) (Ad b26 0) 1 ([([98] : List UInt8)] : List (List UInt8)) := ro_of_box hms0 hq26 hb26 rfl rfl (cells_at (cs := [Vs ([98] : List UInt8)]) (CellsOf.cons (c := [Vs ([98] : List UInt8)]) rfl CellsOf.nil))
 clear hb26 hms0
 refine x_build (vs := [(0, .slice (Ad b26 0) (([([98] : List UInt8)] : List (List UInt8))).length 1)]) (.agg #[.slice (Ad b26 0) (([([98] : List UInt8)] : List (List UInt8))).length 1]) rfl rfl rfl (fun _ _ => by kernel_rfl) ?_
 refine x_buildSlice (vs := [(0, .agg #[.slice (Ad b26 0) (([([98] : List UInt8)] : List (List UInt8))).length 1])]) #[.slice (Ad b26 0) (([([98] : List UInt8)] : List (List UInt8))).length 1] 31 rfl rfl rfl (by kernel_rfl) (fun b28 w28 hq28 hb28 he28 hz28 => ?_)
 refine inl1 ?_
 have hms0 := hms
 have hst := Stp.ext (ls := [[b23], []]) he28
 replace hf7_1 := hf7_1.step hst
 replace hb23 := he28.box hb23 nn
 replace hs26 := hs26.step hst
 replace hms := hms.ev he28
 replace hev := hev.ext he28
 have hs28 : SlR (eSl eStr) w28 (fl [[b23], []]) (Ad b28 0) 1 ([(([([98] : List UInt8)] : List (List UInt8)))] : List (List (List UInt8))) := ro_of_box hms0 hq28 hb28 rfl rfl (cells_at (cs := [.slice (Ad b26 0) (([([98] : List UInt8)] : List (List UInt8))).length 1]) (CellsOf.cons (c := [.slice (Ad b26 0) (([([98] : List UInt8)] : List (List UInt8))).length 1]) ⟨(Ad b26 0), 1, rfl, hs26⟩ CellsOf.nil))
 clear hb28 hms0
 refine x_build (vs := [(0, Vs ([51, 49, 56, 48, 50, 55, 55, 51, 49, 50, 51, 55] : List UInt8)), (1, Vi 100), (2, Vi 2), (3, Vi 100), (7, Vs ([97] : List UInt8))]) (.agg #[Vs ([51, 49, 56, 48, 50, 55, 55, 51, 49, 50, 51, 55] : List UInt8), Vi 100, Vi 2, Vi 100, Vi 0, Vi 0, .bool false, Vs ([97] : List UInt8)]) rfl rfl rfl (fun _ _ => by kernel_rfl) ?_
 refine x_buildSlice (vs := [(0, .agg #[Vs ([51, 49, 56, 48, 50, 55, 55, 51, 49, 50, 51, 55] : List UInt8), Vi 100, Vi 2, Vi 100, Vi 0, Vi 0, .bool false, Vs ([97] : List UInt8)])]) #[Vs ([51, 49, 56, 48, 50, 55, 55, 51, 49, 50, 51, 55] : List UInt8), Vi 100, Vi 2, Vi 100, Vi 0, Vi 0, .bool false, Vs ([97] : List UInt8)] 34 rfl rfl rfl (by kernel_rfl) (fun b30 w30 hq30 hb30 he30 hz30 => ?_)
 refine inl1 ?_
 have hms0 := hms
 have hst := Stp.ext (ls := [[b23], []]) he30
 replace hf7_1 := hf7_1.step hst
 replace hb23 := he30.box hb23 nn
 replace hs28 := hs28.step hst
 replace hms := hms.ev he30
 replace hev := hev.ext he30
 have hs30 : SlR (eProd eStr (eProd (eInt .i64) (eProd (eInt .i64) (eProd (eInt .i64) (eProd (eInt .i64) (eProd (eInt .i64) (eProd eBool eStr))))))) w30 (fl [[b23], []]) (Ad b30 0) 1 ([(([51, 49, 56, 48, 50, 55, 55, 51, 49, 50, 51, 55] : List UInt8), 100, 2, 100, 0, 0, false, ([97] : List UInt8))] : List ((List UInt8) × Int × Int × Int × Int × Int × Bool × (List UInt8))) := ro_of_box hms0 hq30 hb30 rfl rfl (cells_at (cs := [Vs ([51, 49, 56, 48, 50, 55, 55, 51, 49, 50, 51, 55] : List UInt8), Vi 100, Vi 2, Vi 100, Vi 0, Vi 0, .bool false, Vs ([97] : List UInt8)]) (CellsOf.cons (c := [Vs ([51, 49, 56, 48, 50, 55, 55, 51, 49, 50, 51, 55] : List UInt8), Vi 100, Vi 2, Vi 100, Vi 0, Vi 0, .bool false, Vs ([97] : List UInt8)]) ⟨[Vs ([51, 49, 56, 48, 50, 55, 55, 51, 49, 50, 51, 55] : List UInt8)], [Vi 100, Vi 2, Vi 100, Vi 0, Vi 0, .bool false, Vs ([97] : List UInt8)], rfl, rfl, ⟨[Vi 100], [Vi 2, Vi 100, Vi 0, Vi 0, .bool false, Vs ([97] : List UInt8)], rfl, rfl, ⟨[Vi 2], [Vi 100, Vi 0, Vi 0, .bool false, Vs ([97] : List UInt8)], rfl, rfl, ⟨[Vi 100], [Vi 0, Vi 0, .bool false, Vs ([97] : List UInt8)], rfl, rfl, ⟨[Vi 0], [Vi 0, .bool false, Vs ([97] : List UInt8)], rfl, rfl, ⟨[Vi 0], [.bool false, Vs ([97] : List UInt8)], rfl, rfl, ⟨[.bool false], [Vs ([97] : List UInt8)], rfl, rfl, rfl⟩⟩⟩⟩⟩⟩⟩ CellsOf.nil))
 clear hb30 hms0
 obtain ⟨x32, hx, h⟩ := bind_some h
 have hcall := planner_Items_w (Ad b28 0) 1 ([(([([98] : List UInt8)] : List (List UInt8)))] : List (List (List UInt8))) (Ad b30 0) 1 ([(([51, 49, 56, 48, 50, 55, 55, 51, 49, 50, 51, 55] : List UInt8), 100, 2, 100, 0, 0, false, ([97] : List UInt8))] : List ((List UInt8) × Int × Int × Int × Int × Int × Bool × (List UInt8))) _ w30 (fl [[b23], []]) (MS.fold (P := []) hms) (hs28.sub fl1) (hs30.sub fl1) hx
 refine x_call 15 #[] #[] [.slice (Ad b28 0) (([(([([98] : List UInt8)] : List (List UInt8)))] : List (List (List UInt8)))).length 1, .slice (Ad b30 0) (([(([51, 49, 56, 48, 50, 55, 55, 51, 49, 50, 51, 55] : List UInt8), 100, 2, 100, 0, 0, false, ([97] : List UInt8))] : List ((List UInt8) × Int × Int × Int × Int × Int × Bool × (List UInt8)))).length 1] _ rfl rfl rfl rfl hcall ?_
 rintro v w33 ⟨a0_33, c0_33, rfl, he33, hmn33, hfn33, hf33_1⟩
 clear hcall hx
 refine inl1 ?_
 have hst := Stp.call0 [[b23], []] [blk a0_33] [blk a0_33, [b23], []] he33 hfn33 rfl
 replace hf7_1 := hf7_1.step hst
 replace hb23 := he33.box hb23 nn
 replace hev := hev.ext he33
 clear hst
 have hsu := pick_sub (ls := [blk a0_33, [b23], []]) [some 1, some 2] [[b23], []] rfl
 replace hf7_1 := hf7_1.sub hsu
 clear hsu
 refine x_u 5 [(22, .tuple #[Vl a0_33 x32.1 c0_33, Vi x32.2]), (29, Vl a0_33 x32.1 c0_33), (30, Vi x32.2), (6, Vl a0_33 x32.1 c0_33), (7, Vi x32.2)] (x_ek (c_sp (x_u 3 [(31, Vi x6.2), (32, .bool (x6.2 == 0)), (33, .bool (x6.2 == 0))] (x_if 33 (x6.2 == 0) rfl h (fun h => ?_) (fun h => ?_)))))
 · refine x_u 1 [(34, Vl a0_7 x6.1 c0_7)] (x_len (vs := [Vl a0_7 x6.1 c0_7]) (Vi ((x6.1).length : Int)) rfl rfl rfl (reads_len tsl44 _ _ _ _ _) (x_u 3 [(36, .bool (((x6.1).length : Int) == 4)), (37, .bool (((x6.1).length : Int) == 4)), (38, .bool (((x6.1).length : Int) == 4))] (x_if 38 (((x6.1).length : Int) == 4) rfl h (fun h => ?_) (fun h => ?_))))
   · refine x_u 1 [(39, Vl a0_7 x6.1 c0_7)] ?_
     obtain ⟨x35, hx35, h⟩ := bind_some h
     obtain ⟨ad35, cs35, hr35, hc35, hR⟩ := reads_index (Mo := []) tsl44 hf7_1 hx35
     obtain ⟨_, _, rfl, rfl, ⟨_, _, rfl, rfl, ⟨_, _, rfl, rfl, rfl⟩⟩⟩ := hR
     refine x_indexAddr (xv := Vl a0_7 x6.1 c0_7) (yv := Vi 0) (.pointer (some ad35)) rfl rfl rfl rfl hr35 (x_load (xv := .pointer (some ad35)) (.agg #[Vi x35.1, Vi x35.2.1, Vi x35.2.2.1, Vi x35.2.2.2]) rfl rfl rfl (reads_agg tagg48 hc35 (fun _ h => by cases h)) ?_)
     refine x_build (vs := [(0, Vi 0), (1, Vi 0), (2, Vi 3), (3, Vi 1)]) (.agg #[Vi 0, Vi 0, Vi 3, Vi 1]) rfl rfl rfl (fun _ _ => by kernel_rfl) ?_
     refine x_binop (.bool (x35.1 == 0 && (x35.2.1 == 0 && (x35.2.2.1 == 3 && (x35.2.2.2 == 1 && true))))) (.agg #[Vi x35.1, Vi x35.2.1, Vi x35.2.2.1, Vi x35.2.2.2]) (.agg #[Vi 0, Vi 0, Vi 3, Vi 1]) rfl rfl rfl rfl (bin_aggeq Tryz.underlying48 (by kernel_rfl) (by kernel_rfl) (fun _ => (eqF_cell (by kernel_rfl) (fun w => (tcell3 w).1) rfl rfl (fun w => eq_int tint3 _ _ w) (eqF_cell (by kernel_rfl) (fun w => (tcell3 w).1) rfl rfl (fun w => eq_int tint3 _ _ w) (eqF_cell (by kernel_rfl) (fun w => (tcell3 w).1) rfl rfl (fun w => eq_int tint3 _ _ w) (eqF_cell (by kernel_rfl) (fun w => (tcell3 w).1) rfl rfl (fun w => eq_int tint3 _ _ w) eqF_nil)))))) ?_
     refine x_u 2 [(44, .bool (x35.1 == 0 && (x35.2.1 == 0 && (x35.2.2.1 == 3 && (x35.2.2.2 == 1 && true))))), (45, .bool (x35.1 == 0 && (x35.2.1 == 0 && (x35.2.2.1 == 3 && (x35.2.2.2 == 1 && true)))))] (x_if 45 (x35.1 == 0 && (x35.2.1 == 0 && (x35.2.2.1 == 3 && (x35.2.2.2 == 1 && true)))) rfl h (fun h => ?_) (fun h => ?_))
     · refine x_u 4 [(46, Vi x16.2.2), (47, .bool (x16.2.2 == 0)), (48, .bool (x16.2.2 == 0)), (49, .bool (x16.2.2 == 0))] (x_if 49 (x16.2.2 == 0) rfl h (fun h => ?_) (fun h => ?_))
       · refine x_fieldAddr (xv := Vp b23 0) (Vp b23 0) rfl rfl rfl (reads_field tfld67_0 _ _) (x_fieldAddr (xv := Vp b23 0) (Vp b23 1) rfl rfl rfl (reads_field tfld50_1 _ _) (x_load (xv := Vp b23 1) (Vi x16.1.1.2) rfl rfl rfl (reads_box tcell3 hb23 nn 1 _ rfl) (x_u 3 [(53, .bool (x16.1.1.2 == 1)), (54, .bool (x16.1.1.2 == 1)), (55, .bool (x16.1.1.2 == 1))] (x_if 55 (x16.1.1.2 == 1) rfl h (fun h => ?_) (fun h => ?_)))))
         · refine x_fieldAddr (xv := Vp b23 0) (Vp b23 2) rfl rfl rfl (reads_field tfld67_1 _ _) (x_fieldAddr (xv := Vp b23 2) (Vp b23 2) rfl rfl rfl (reads_field tfld54_0 _ _) (x_fieldAddr (xv := Vp b23 2) (Vp b23 2) rfl rfl rfl (reads_field tfld52_0 _ _) (x_load (xv := Vp b23 2) (Vi x16.1.2.1.1.1) rfl rfl rfl (reads_box tcell3 hb23 nn 2 _ rfl) (x_u 3 [(60, .bool (x16.1.2.1.1.1 == 2)), (61, .bool (x16.1.2.1.1.1 == 2)), (62, .bool (x16.1.2.1.1.1 == 2))] (x_if 62 (x16.1.2.1.1.1 == 2) rfl h (fun h => ?_) (fun h => ?_))))))
           · refine x_u 4 [(63, Vi x32.2), (64, .bool (x32.2 == 13)), (65, .bool (x32.2 == 13)), (0, .bool (x32.2 == 13))] (x_ek (c_nm [(0, .bool (x32.2 == 13))] (fun J => ?_)))
             refine c_ret (r_ret (r_vals [.bool (x32.2 == 13)] ⟨rfl, trivial⟩ ?_))
             obtain rfl := some_inj h
             exact ⟨rfl, hev⟩
           refine x_u 4 [(63, undef), (64, undef), (65, .bool false), (0, .bool false)] (x_ek (c_nm [(0, .bool false)] (fun J => ?_)))
           refine c_ret (r_ret (r_vals [.bool false] ⟨rfl, trivial⟩ ?_))
           obtain rfl := some_inj h
           exact ⟨rfl, hev⟩
         refine x_u 11 [(56, undef), (57, undef), (58, undef), (59, undef), (60, undef), (61, .bool false), (62, .bool false), (63, undef), (64, undef), (65, .bool false), (0, .bool false)] (x_ek (c_nm [(0, .bool false)] (fun J => ?_)))
         refine c_ret (r_ret (r_vals [.bool false] ⟨rfl, trivial⟩ ?_))
         obtain rfl := some_inj h
         exact ⟨rfl, hev⟩
       refine x_u 17 [(50, undef), (51, undef), (52, undef), (53, undef), (54, .bool false), (55, .bool false), (56, undef), (57, undef), (58, undef), (59, undef), (60, undef), (61, .bool false), (62, .bool false), (63, undef), (64, undef), (65, .bool false), (0, .bool false)] (x_ek (c_nm [(0, .bool false)] (fun J => ?_)))
       refine c_ret (r_ret (r_vals [.bool false] ⟨rfl, trivial⟩ ?_))
       obtain rfl := some_inj h
       exact ⟨rfl, hev⟩
     refine x_u 21 [(46, undef), (47, undef), (48, .bool false), (49, .bool false), (50, undef), (51, undef), (52, undef), (53, undef), (54, .bool false), (55, .bool false), (56, undef), (57, undef), (58, undef), (59, undef), (60, undef), (61, .bool false), (62, .bool false), (63, undef), (64, undef), (65, .bool false), (0, .bool false)] (x_ek (c_nm [(0, .bool false)] (fun J => ?_)))
     refine c_ret (r_ret (r_vals [.bool false] ⟨rfl, trivial⟩ ?_))
     obtain rfl := some_inj h
     exact ⟨rfl, hev⟩
   refine x_u 28 [(39, undef), (40, undef), (41, undef), (42, undef), (43, undef), (44, .bool false), (45, .bool false), (46, undef), (47, undef), (48, .bool false), (49, .bool false), (50, undef), (51, undef), (52, undef), (53, undef), (54, .bool false), (55, .bool false), (56, undef), (57, undef), (58, undef), (59, undef), (60, undef), (61, .bool false), (62, .bool false), (63, undef), (64, undef), (65, .bool false), (0, .bool false)] (x_ek (c_nm [(0, .bool false)] (fun J => ?_)))
   refine c_ret (r_ret (r_vals [.bool false] ⟨rfl, trivial⟩ ?_))
   obtain rfl := some_inj h
   exact ⟨rfl, hev⟩
 refine x_u 33 [(34, undef), (35, undef), (36, undef), (37, .bool false), (38, .bool false), (39, undef), (40, undef), (41, undef), (42, undef), (43, undef), (44, .bool false), (45, .bool false), (46, undef), (47, undef), (48, .bool false), (49, .bool false), (50, undef), (51, undef), (52, undef), (53, undef), (54, .bool false), (55, .bool false), (56, undef), (57, undef), (58, undef), (59, undef), (60, undef), (61, .bool false), (62, .bool false), (63, undef), (64, undef), (65, .bool false), (0, .bool false)] (x_ek (c_nm [(0, .bool false)] (fun J => ?_)))
 refine c_ret (r_ret (r_vals [.bool false] ⟨rfl, trivial⟩ ?_))
 obtain rfl := some_inj h
 exact ⟨rfl, hev⟩
end Go.Proofs.YtlejnkhaphlooaaGreat
