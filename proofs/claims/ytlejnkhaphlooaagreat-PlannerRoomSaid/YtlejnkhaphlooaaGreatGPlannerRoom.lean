
/- Walks, printed by program: each function returns what the partial function of the same name returns. Conditions: those of each theorem. -/
import Derived.Test.YtlejnkhaphlooaaGreatGT
import Derived.Test.YtlejnkhaphlooaaGreatGgen
import Derived.Test.YtlejnkhaphlooaaGreatGlaw17sane
import Derived.Test.YtlejnkhaphlooaaGreatGlaw17tracks
import Derived.Test.YtlejnkhaphlooaaGreatGplanner
set_option linter.unusedVariables false
set_option linter.unusedSimpArgs false
set_option maxRecDepth 4000
namespace Go.Proofs.YtlejnkhaphlooaaGreat
open Go Go.V Go.Proofs
def law17_PlannerRoom_L26 (x2 : ((List Int) × Int)) (x9 : (List Int) × Int) (s : Int × (List Int) × Int) : Option (Step (Int × (List Int) × Int) (Int × (List Int))) :=
match s with
| (e4_l26_1, d23_l26, t32__s32_l26) =>
(if (decide (t32__s32_l26 < (((([] : List Int) ++ x9.1)).length : Int))) = true then
((idx d23_l26 t32__s32_l26).bind fun x28 =>
((gen_Maker_Pick x2.1 e4_l26_1 ([0, 100, 1000])).bind fun x32 =>
((idx d23_l26 t32__s32_l26).bind fun x34 =>
some (.next (x32.2, (d23_l26.set (Int.toNat t32__s32_l26) (IntKind.i64.wrap (x28 + x32.1))), IntKind.i64.wrap (t32__s32_l26 + 1))))))
else
some (.done (e4_l26_1, d23_l26)))

def law17_PlannerRoom (p0 : List Int) : Option Bool :=
((gen_New p0).bind fun x2 =>
((gen_Maker_Items x2.1 x2.2 12).bind fun x6 =>
((law17_tracks x2.1 x6.2).bind fun x9 =>
((planner_Plan x6.1 x9.1).bind fun x12 =>
(if ([] : List Int).length + x9.1.length ≤ 4294967296 then
((loop (law17_PlannerRoom_L26 x2 x9) (x9.2, (([] : List Int) ++ x9.1), 0)).bind fun d => match d with
| (e4_x26_1, d23_x26) => ((gen_Maker_Pick x2.1 e4_x26_1 ([300, 4000])).bind fun x39 =>
(if d23_x26.length + ([x39.1]).length ≤ 4294967296 then
((planner_Plan x6.1 (d23_x26 ++ [x39.1])).bind fun x44 =>
(if (x12.2.2 != 0) = true then
(if ((x12.2.2 == 15) == (x44.2.2 == 15)) = true then
(if (x12.2.2 == 15) = true then
((law17_sane).bind fun x55 =>
some x55)
else
(if (x12.2.2 == 14) = true then
((law17_sane).bind fun x57 =>
some x57)
else
some false))
else
some false)
else
(if (x44.2.2 == 0) = true then
(if (decide (x44.1.2.1.1.1 ≤ x12.1.2.1.1.1)) = true then
((law17_sane).bind fun x59 =>
some x59)
else
some false)
else
some false)))
else none)))
else none)))))

theorem law17_PlannerRoom_w (a_p0 : Option Addr) (c_p0 : Nat) (p0 : List Int) (r : Bool) (w : World) (M : List Nat) (hms : MS w [M]) (hs_p0 : SlR (eInt .i64) w (fl [M]) a_p0 c_p0 p0) (h : law17_PlannerRoom p0 = some r) : CallVC Tryz.prog 5 [.slice a_p0 (p0).length c_p0] w fun v w' => v = .bool r ∧ Ev [] w w' := by
 refine calls_vc hmx Tryz.func5 (by kernel_rfl) rfl (rs := [.tmp 2]) rfl (by kernel_rfl) (args := [.slice a_p0 (p0).length c_p0]) rfl ?_
 have hev : Ev [] w w := Ev.refl _ _
 refine c_sp (x_u 1 [(2, .bool false)] (x_ek (c_sp (x_u 1 [(14, .slice a_p0 (p0).length c_p0)] ?_))))
 obtain ⟨x2, hx, h⟩ := bind_some h
 have hcall := gen_New_w a_p0 c_p0 p0 _ w (fl [M]) (MS.fold (P := []) hms) (hs_p0.sub fl1) hx
 refine x_call 10 #[] #[] [.slice a_p0 (p0).length c_p0] _ rfl rfl rfl rfl hcall ?_
 rintro v w3 ⟨b0_3, a1_3, c1_3, rfl, he3, hmn3, hfn3, hf3_1, hf3_2⟩
 clear hcall hx
 refine inl1 ?_
 have hpk2 : MS w ([] ++ [M]) := hms.pick [some 0] _ rfl
 have hsn : ∀ x ∈ fl [[b0_3], M], x ∈ fl ([[b0_3]] ++ ([] ++ [M])) := pick_sub [some 0, some 1] _ rfl
 replace hms : MS w3 [[b0_3], M] := (MS.call (P := []) (R := [M]) (res := [[b0_3]]) (par := []) hpk2 he3 hmn3 hfn3 (NP.init _ _)).pick [some 0, some 1] _ rfl
 have hfr2 : FR w.heap.size [[b0_3]] := (FR.cons (fun b hb => Nat.le_trans hev.size (hfn3.at 0 rfl b hb)) (FR.nil _))
 replace hev := hev.ext he3
 replace hfr := hfr2
 clear hfr2
 have hsp : ∀ x ∈ fl [[b0_3], M], x ∈ fl ([[b0_3]] ++ ([] ++ [(fl [M])])) := fun x hx => fl_tot (res := [[b0_3]]) (par := []) (R := [M]) x (hsn x hx)
 replace hf3_2 := hf3_2.sub hsp
 clear hpk2 hsn
 refine x_u 1 [(3, Vp b0_3 0)] (x_ek (c_sp (x_u 1 [(16, Vp b0_3 0)] ?_)))
 obtain ⟨x6, hx, h⟩ := bind_some h
 have hpk : MS w3 ([[b0_3]] ++ [M]) := hms.pick [some 0, some 1] _ rfl
 have hsb0 : ∀ x ∈ fl ([[b0_3]] ++ [M]), x ∈ fl [[b0_3], M] := pick_sub [some 0, some 1] _ rfl
 have hsb : ∀ x ∈ fl ([[b0_3]] ++ [(fl [M])]), x ∈ fl [[b0_3], M] := fun x hx => hsb0 x (fl_unfold x hx)
 have hcall := gen_Maker_Items_w b0_3 a1_3 c1_3 x2.1 x2.2 12 _ w3 (fl [M]) (hpk.fold (P := [[b0_3]])) (hf3_2.sub hsb) hf3_1 hx
 refine x_call 19 #[] #[] [Vp b0_3 0, Vi 12] _ rfl rfl rfl rfl hcall ?_
 rintro v w7 ⟨a0_7, c0_7, rfl, he7, hp7_0, hmn7, hfn7, hf7_1⟩
 clear hcall hx
 refine inl1 ?_
 have hpk2 : MS w3 ([[b0_3]] ++ [M]) := hms.pick [some 0, some 1] _ rfl
 have hsb2 : ∀ x ∈ fl ([[b0_3]] ++ [M]), x ∈ fl [[b0_3], M] := pick_sub [some 0, some 1] _ rfl
 have hst0 := Stp.call (LS := [[b0_3], M]) (res := [blk a0_7]) (par := [[b0_3]]) (R := [M]) he7 (fun b hb => hsb2 b (fl_left' (P := [[b0_3]]) b hb)) hfn7 (NP.init _ _) (fun x hx => hsb2 x (fl_right' (P := [[b0_3]]) x hx))
 have hsn : ∀ x ∈ fl [blk a0_7, [b0_3], M], x ∈ fl ([blk a0_7] ++ ([[b0_3]] ++ [M])) := pick_sub [some 0, some 1, some 2] _ rfl
 have hst := hst0.res hsn
 replace hf3_2 := hf3_2.step hst
 replace hms : MS w7 [blk a0_7, [b0_3], M] := (MS.call (P := [[b0_3]]) (R := [M]) (res := [blk a0_7]) (par := [[b0_3]]) hpk2 he7 hmn7 hfn7 (NP.init _ _)).pick [some 0, some 1, some 2] _ rfl
 have hPf : ∀ b ∈ fl [[b0_3]], w.heap.size ≤ b := FR.mem (ls := [[b0_3]]) (hfr.pick [some 0] _ rfl)
 have hfr2 : FR w.heap.size [blk a0_7, [b0_3]] := (FR.cons (fun b hb => Nat.le_trans hev.size (hfn7.at 0 rfl b hb)) (FR.cons (hfr.at 0 rfl) (FR.nil _)))
 replace hev := hev.then he7 (fun b hb => .inr (hPf b hb))
 replace hfr := hfr2
 clear hfr2
 replace hf3_1 := hp7_0
 replace hf7_1 := OwnS.plain (M' := fl [blk a0_7, [b0_3], M]) (plain_prod (plain_int _) (plain_prod (plain_int _) (plain_prod (plain_int _) (plain_int _)))) hf7_1
 clear hpk hsb hsb0 hpk2 hsb2 hst0 hsn hst
 have hpk := hms.pick [some 1, some 2] [[b0_3], M] rfl
 have hsu := pick_sub (ls := [blk a0_7, [b0_3], M]) [some 1, some 2] [[b0_3], M] rfl
 replace hf3_2 := hf3_2.sub hsu
 replace hf7_1 := hf7_1.ro hsu (pick_out hms 0 rfl [some 1, some 2] [[b0_3], M] rfl rfl)
 replace hms := hpk
 replace hfr := hfr.pick [some 1] [[b0_3]] rfl
 clear hpk hsu
 refine x_u 1 [(18, Vp b0_3 0)] ?_
 obtain ⟨x9, hx, h⟩ := bind_some h
 have hpk : MS w7 ([[b0_3]] ++ [M]) := hms.pick [some 0, some 1] _ rfl
 have hsb0 : ∀ x ∈ fl ([[b0_3]] ++ [M]), x ∈ fl [[b0_3], M] := pick_sub [some 0, some 1] _ rfl
 have hsb : ∀ x ∈ fl ([[b0_3]] ++ [(fl [M])]), x ∈ fl [[b0_3], M] := fun x hx => hsb0 x (fl_unfold x hx)
 have hcall := law17_tracks_w b0_3 a1_3 c1_3 x2.1 x6.2 _ w7 (fl [M]) (hpk.fold (P := [[b0_3]])) (hf3_2.sub hsb) hf3_1 hx
 refine x_call 24 #[] #[] [Vp b0_3 0] _ rfl rfl rfl rfl hcall ?_
 rintro v w10 ⟨a0_10, c0_10, rfl, he10, hp10_0, hmn10, hfn10, hf10_1⟩
 clear hcall hx
 refine inl1 ?_
 have hpk2 : MS w7 ([[b0_3]] ++ [M]) := hms.pick [some 0, some 1] _ rfl
 have hsb2 : ∀ x ∈ fl ([[b0_3]] ++ [M]), x ∈ fl [[b0_3], M] := pick_sub [some 0, some 1] _ rfl
 have hst0 := Stp.call (LS := [[b0_3], M]) (res := [blk a0_10]) (par := [[b0_3]]) (R := [M]) he10 (fun b hb => hsb2 b (fl_left' (P := [[b0_3]]) b hb)) hfn10 (NP.init _ _) (fun x hx => hsb2 x (fl_right' (P := [[b0_3]]) x hx))
 have hsn : ∀ x ∈ fl [blk a0_10, [b0_3], M], x ∈ fl ([blk a0_10] ++ ([[b0_3]] ++ [M])) := pick_sub [some 0, some 1, some 2] _ rfl
 have hst := hst0.res hsn
 replace hf3_2 := hf3_2.step hst
 replace hf7_1 := hf7_1.step hst
 replace hms : MS w10 [blk a0_10, [b0_3], M] := (MS.call (P := [[b0_3]]) (R := [M]) (res := [blk a0_10]) (par := [[b0_3]]) hpk2 he10 hmn10 hfn10 (NP.init _ _)).pick [some 0, some 1, some 2] _ rfl
 have hPf : ∀ b ∈ fl [[b0_3]], w.heap.size ≤ b := FR.mem (ls := [[b0_3]]) (hfr.pick [some 0] _ rfl)
 have hfr2 : FR w.heap.size [blk a0_10, [b0_3]] := (FR.cons (fun b hb => Nat.le_trans hev.size (hfn10.at 0 rfl b hb)) (FR.cons (hfr.at 0 rfl) (FR.nil _)))
 replace hev := hev.then he10 (fun b hb => .inr (hPf b hb))
 replace hfr := hfr2
 clear hfr2
 replace hf3_1 := hp10_0
 replace hf10_1 := OwnS.plain (M' := fl [blk a0_10, [b0_3], M]) (plain_int _) hf10_1
 clear hpk hsb hsb0 hpk2 hsb2 hst0 hsn hst
 have hpk := hms.pick [some 1, some 2] [[b0_3], M] rfl
 have hsu := pick_sub (ls := [blk a0_10, [b0_3], M]) [some 1, some 2] [[b0_3], M] rfl
 replace hf3_2 := hf3_2.sub hsu
 replace hf7_1 := hf7_1.sub hsu
 replace hf10_1 := hf10_1.ro hsu (pick_out hms 0 rfl [some 1, some 2] [[b0_3], M] rfl rfl)
 replace hms := hpk
 replace hfr := hfr.pick [some 1] [[b0_3]] rfl
 clear hpk hsu
 refine x_u 2 [(4, .slice a0_7 (x6.1).length c0_7), (5, .slice a0_10 (x9.1).length c0_10)] (x_ek (c_sp (x_u 2 [(21, .slice a0_7 (x6.1).length c0_7), (22, .slice a0_10 (x9.1).length c0_10)] ?_)))
 obtain ⟨x12, hx, h⟩ := bind_some h
 have hcall := planner_Plan_w a0_7 c0_7 x6.1 a0_10 c0_10 x9.1 _ w10 (fl [[b0_3], M]) (MS.fold (P := []) hms) (hf7_1.sub fl1) (hf10_1.sub fl1) hx
 refine x_call 25 #[] #[] [.slice a0_7 (x6.1).length c0_7, .slice a0_10 (x9.1).length c0_10] _ rfl rfl rfl rfl hcall ?_
 rintro v w13 ⟨a0_13, c0_13, a2_13, c2_13, a4_13, c4_13, a6_13, c6_13, a8_13, c8_13, rfl, he13, hmn13, hfn13, hf13_1, hf13_2, hf13_3, hf13_4, hf13_5⟩
 clear hcall hx
 refine inl1 ?_
 have hst := Stp.call0 [[b0_3], M] [blk a0_13, blk a2_13, blk a4_13, blk a6_13, blk a8_13] [blk a0_13, blk a2_13, blk a4_13, blk a6_13, blk a8_13, [b0_3], M] he13 hfn13 rfl
 replace hf3_1 := he13.box hf3_1 nn
 replace hf3_2 := hf3_2.step hst
 replace hf7_1 := hf7_1.step hst
 replace hf10_1 := hf10_1.step hst
 replace hms := MS.call0 [blk a0_13, blk a2_13, blk a4_13, blk a6_13, blk a8_13] [blk a0_13, blk a2_13, blk a4_13, blk a6_13, blk a8_13, [b0_3], M] hms he13 hmn13 hfn13 rfl
 have hfr2 := FR.call0 [blk a0_13, blk a2_13, blk a4_13, blk a6_13, blk a8_13, [b0_3]] hev.size hfn13 hfr rfl
 replace hev := hev.ext he13
 replace hfr := hfr2
 clear hfr2
 replace hf13_1 := OwnS.plain (M' := fl [blk a0_13, blk a2_13, blk a4_13, blk a6_13, blk a8_13, [b0_3], M]) (plain_prod (plain_int _) (plain_prod (plain_int _) (plain_prod (plain_int _) (plain_int _)))) hf13_1
 replace hf13_2 := OwnS.plain (M' := fl [blk a0_13, blk a2_13, blk a4_13, blk a6_13, blk a8_13, [b0_3], M]) (plain_int _) hf13_2
 replace hf13_3 := OwnS.plain (M' := fl [blk a0_13, blk a2_13, blk a4_13, blk a6_13, blk a8_13, [b0_3], M]) (plain_int _) hf13_3
 replace hf13_4 := OwnS.plain (M' := fl [blk a0_13, blk a2_13, blk a4_13, blk a6_13, blk a8_13, [b0_3], M]) (plain_int _) hf13_4
 clear hst
 have hpk := hms.pick [some 1, some 2, some 3, some 4, some 5, some 6] [blk a2_13, blk a4_13, blk a6_13, blk a8_13, [b0_3], M] rfl
 have hsu := pick_sub (ls := [blk a0_13, blk a2_13, blk a4_13, blk a6_13, blk a8_13, [b0_3], M]) [some 1, some 2, some 3, some 4, some 5, some 6] [blk a2_13, blk a4_13, blk a6_13, blk a8_13, [b0_3], M] rfl
 replace hf3_2 := hf3_2.sub hsu
 replace hf7_1 := hf7_1.sub hsu
 replace hf10_1 := hf10_1.sub hsu
 replace hf13_1 := hf13_1.ro hsu (pick_out hms 0 rfl [some 1, some 2, some 3, some 4, some 5, some 6] [blk a2_13, blk a4_13, blk a6_13, blk a8_13, [b0_3], M] rfl rfl)
 replace hf13_2 := hf13_2.sub hsu
 replace hf13_3 := hf13_3.sub hsu
 replace hf13_4 := hf13_4.sub hsu
 replace hms := hpk
 replace hfr := hfr.pick [some 1, some 2, some 3, some 4, some 5] [blk a2_13, blk a4_13, blk a6_13, blk a8_13, [b0_3]] rfl
 clear hpk hsu
 have hpk := hms.pick [some 1, some 2, some 3, some 4, some 5] [blk a4_13, blk a6_13, blk a8_13, [b0_3], M] rfl
 have hsu := pick_sub (ls := [blk a2_13, blk a4_13, blk a6_13, blk a8_13, [b0_3], M]) [some 1, some 2, some 3, some 4, some 5] [blk a4_13, blk a6_13, blk a8_13, [b0_3], M] rfl
 replace hf3_2 := hf3_2.sub hsu
 replace hf7_1 := hf7_1.sub hsu
 replace hf10_1 := hf10_1.sub hsu
 replace hf13_1 := hf13_1.sub hsu
 replace hf13_2 := hf13_2.ro hsu (pick_out hms 0 rfl [some 1, some 2, some 3, some 4, some 5] [blk a4_13, blk a6_13, blk a8_13, [b0_3], M] rfl rfl)
 replace hf13_3 := hf13_3.sub hsu
 replace hf13_4 := hf13_4.sub hsu
 replace hms := hpk
 replace hfr := hfr.pick [some 1, some 2, some 3, some 4] [blk a4_13, blk a6_13, blk a8_13, [b0_3]] rfl
 clear hpk hsu
 have hpk := hms.pick [some 1, some 2, some 3, some 4] [blk a6_13, blk a8_13, [b0_3], M] rfl
 have hsu := pick_sub (ls := [blk a4_13, blk a6_13, blk a8_13, [b0_3], M]) [some 1, some 2, some 3, some 4] [blk a6_13, blk a8_13, [b0_3], M] rfl
 replace hf3_2 := hf3_2.sub hsu
 replace hf7_1 := hf7_1.sub hsu
 replace hf10_1 := hf10_1.sub hsu
 replace hf13_1 := hf13_1.sub hsu
 replace hf13_2 := hf13_2.sub hsu
 replace hf13_3 := hf13_3.ro hsu (pick_out hms 0 rfl [some 1, some 2, some 3, some 4] [blk a6_13, blk a8_13, [b0_3], M] rfl rfl)
 replace hf13_4 := hf13_4.sub hsu
 replace hms := hpk
 replace hfr := hfr.pick [some 1, some 2, some 3] [blk a6_13, blk a8_13, [b0_3]] rfl
 clear hpk hsu
 have hpk := hms.pick [some 1, some 2, some 3] [blk a8_13, [b0_3], M] rfl
 have hsu := pick_sub (ls := [blk a6_13, blk a8_13, [b0_3], M]) [some 1, some 2, some 3] [blk a8_13, [b0_3], M] rfl
 replace hf3_2 := hf3_2.sub hsu
 replace hf7_1 := hf7_1.sub hsu
 replace hf10_1 := hf10_1.sub hsu
 replace hf13_1 := hf13_1.sub hsu
 replace hf13_2 := hf13_2.sub hsu
 replace hf13_3 := hf13_3.sub hsu
 replace hf13_4 := hf13_4.ro hsu (pick_out hms 0 rfl [some 1, some 2, some 3] [blk a8_13, [b0_3], M] rfl rfl)
 replace hms := hpk
 replace hfr := hfr.pick [some 1, some 2] [blk a8_13, [b0_3]] rfl
 clear hpk hsu
 have hpk := hms.pick [some 1, some 2] [[b0_3], M] rfl
 have hsu := pick_sub (ls := [blk a8_13, [b0_3], M]) [some 1, some 2] [[b0_3], M] rfl
 replace hf3_2 := hf3_2.sub hsu
 replace hf7_1 := hf7_1.sub hsu
 replace hf10_1 := hf10_1.sub hsu
 replace hf13_1 := hf13_1.sub hsu
 replace hf13_2 := hf13_2.sub hsu
 replace hf13_3 := hf13_3.sub hsu
 replace hf13_4 := hf13_4.sub hsu
 replace hms := hpk
 replace hfr := hfr.pick [some 1] [[b0_3]] rfl
 clear hpk hsu
 refine x_u 4 [(20, .tuple #[.agg #[.slice a0_13 (x12.1.1.1).length c0_13, Vi x12.1.1.2, Vi x12.1.2.1.1.1, .slice a2_13 (x12.1.2.1.1.2).length c2_13, .slice a4_13 (x12.1.2.1.2).length c4_13, .slice a6_13 (x12.1.2.2).length c6_13], .slice a8_13 (x12.2.1).length c8_13, Vi x12.2.2]), (24, .agg #[.slice a0_13 (x12.1.1.1).length c0_13, Vi x12.1.1.2, Vi x12.1.2.1.1.1, .slice a2_13 (x12.1.2.1.1.2).length c2_13, .slice a4_13 (x12.1.2.1.2).length c4_13, .slice a6_13 (x12.1.2.2).length c6_13]), (25, .slice a8_13 (x12.2.1).length c8_13), (26, Vi x12.2.2)] (x_alloc (z := .agg #[.slice none 0 0, Vi 0, Vi 0, .slice none 0 0, .slice none 0 0, .slice none 0 0]) rfl rfl (by kernel_rfl) (fun b19 w19 hq19 hb19 he19 hz19 => ?_))
 replace hb19 : w19.heap[b19]? = some (.cells #[.slice none 0 0, Vi 0, Vi 0, .slice none 0 0, .slice none 0 0, .slice none 0 0] 67 (0, 0)) := hb19
 refine inl1 ?_
 have hst := Stp.box (ls := [[b0_3], M]) he19 hq19
 replace hf3_1 := he19.box hf3_1 nn
 replace hf3_2 := hf3_2.step hst
 replace hf7_1 := hf7_1.step hst
 replace hf10_1 := hf10_1.step hst
 replace hf13_1 := hf13_1.step hst
 replace hf13_2 := hf13_2.step hst
 replace hf13_3 := hf13_3.step hst
 replace hf13_4 := hf13_4.step hst
 replace hms := hms.box he19 hq19 hb19
 replace hfr := hfr.box hev.size hq19
 replace hev := hev.ext he19
 obtain ⟨w21, hr21, hb21, he21⟩ := store_boxagg 0 [.slice a0_13 (x12.1.1.1).length c0_13, Vi x12.1.1.2, Vi x12.1.2.1.1.1, .slice a2_13 (x12.1.2.1.1.2).length c2_13, .slice a4_13 (x12.1.2.1.2).length c4_13, .slice a6_13 (x12.1.2.2).length c6_13] #[.slice a0_13 (x12.1.1.1).length c0_13, Vi x12.1.1.2, Vi x12.1.2.1.1.1, .slice a2_13 (x12.1.2.1.1.2).length c2_13, .slice a4_13 (x12.1.2.1.2).length c4_13, .slice a6_13 (x12.1.2.2).length c6_13] tagg67 hb19 rfl rfl rfl
 refine x_store w21 (xv := Vp b19 0) (yv := .agg #[.slice a0_13 (x12.1.1.1).length c0_13, Vi x12.1.1.2, Vi x12.1.2.1.1.1, .slice a2_13 (x12.1.2.1.1.2).length c2_13, .slice a4_13 (x12.1.2.1.2).length c4_13, .slice a6_13 (x12.1.2.2).length c6_13]) rfl rfl rfl rfl hr21 (inl1 ?_)
 have hst := Stp.ev' (ls := [[b19], [b0_3], M]) he21 (mem_flat 0 rfl)
 replace hf3_1 := he21.box hf3_1 (hms.apart 1 0 rfl rfl rfl _ mem1)
 replace hf3_2 := hf3_2.step hst
 replace hf7_1 := hf7_1.step hst
 replace hf10_1 := hf10_1.step hst
 replace hf13_1 := hf13_1.step hst
 replace hf13_2 := hf13_2.step hst
 replace hf13_3 := hf13_3.step hst
 replace hf13_4 := hf13_4.step hst
 replace hms := hms.ev he21
 replace hev := hev.then he21 (fun b hb => .inr (hfr.at 0 rfl b hb))
 replace hb19 := hb21
 refine x_u 2 [(7, .slice a8_13 (x12.2.1).length c8_13), (8, Vi x12.2.2)] (x_ek (c_nm [(3, Vp b0_3 0), (4, .slice a0_7 (x6.1).length c0_7), (5, .slice a0_10 (x9.1).length c0_10), (6, Vp b19 0), (8, Vi x12.2.2)] (fun J => ?_)))
 refine c_sp (x_buildSlice (vs := []) #[] 3 rfl rfl rfl (by kernel_rfl) (fun b22 w22 hq22 hb22 he22 hz22 => ?_))
 refine inl1 ?_
 obtain ⟨a22, ea22⟩ : ∃ a, a = some (⟨b22, 0, none⟩ : Addr) := ⟨_, rfl⟩
 have hw22 : ∀ M, OwnS (eInt .i64) 3 w22 M a22 0 ([] : List Int) := fun M => ea22 ▸ own_of_box hb22 (by decide) rfl rfl (cells_at (cs := []) CellsOf.nil)
 have hn22 : ∀ b ∈ blk a22, w21.heap.size ≤ b ∧ b < w22.heap.size := by subst ea22; intro b hb; simp only [blk, List.mem_singleton] at hb; subst hb; exact ⟨Nat.le_of_eq hq22.symm, lt_of_heap hb22⟩
 clear hb22
 have hst := Stp.push (ls := [[b19], [b0_3], M]) (l := blk a22) he22 (fun _ h => by cases h) (fun b hb => (hn22 b hb).1)
 replace hf3_1 := he22.box hf3_1 nn
 replace hf3_2 := hf3_2.step hst
 replace hf7_1 := hf7_1.step hst
 replace hf10_1 := hf10_1.step hst
 replace hf13_1 := hf13_1.step hst
 replace hf13_2 := hf13_2.step hst
 replace hf13_3 := hf13_3.step hst
 replace hf13_4 := hf13_4.step hst
 replace hb19 := he22.box hb19 nn
 replace hms := hms.push he22 hn22
 replace hfr := hfr.push (fun b hb => Nat.le_trans hev.size (hn22 b hb).1)
 replace hev := hev.ext he22
 have ho22 := hw22 (fl [blk a22, [b19], [b0_3], M])
 clear hw22
 rw [← ea22]
 refine x_u 1 [(28, .slice a0_10 (x9.1).length c0_10)] ?_
 have hg := guard_l h
 replace h := guard_r h
 obtain ⟨a24, c24, w24, hr24, he24, hn24, hm24, hw24⟩ := own_appendN tel22 22 ho22 (mem_flat 0 rfl) hf10_1 hg
 refine x_builtin (vs := [.slice a22 (([] : List Int)).length 0, .slice a0_10 (x9.1).length c0_10]) _ w24 rfl rfl rfl rfl (run_value _ _ _ _ hr24) (inl1 ?_)
 have hst : Stp (fl [blk a22, [b19], [b0_3], M]) w22 (fl [blk a24, [b19], [b0_3], M]) w24 := Stp.upd 0 he24 rfl (fun b hb => (hn24 b hb).1)
 replace hf3_1 := he24.box hf3_1 (hms.apart 2 0 rfl rfl rfl _ mem1)
 replace hf3_2 := hf3_2.step hst
 replace hf7_1 := hf7_1.step hst
 replace hf13_1 := hf13_1.step hst
 replace hf13_2 := hf13_2.step hst
 replace hf13_3 := hf13_3.step hst
 replace hf13_4 := hf13_4.step hst
 replace hb19 := he24.box hb19 (hms.apart 1 0 rfl rfl rfl _ mem1)
 replace hms : MS w24 [blk a24, [b19], [b0_3], M] := hms.upd 0 he24 rfl hn24
 have hfr2 : FR w.heap.size [blk a24, [b19], [b0_3]] := hfr.upd 0 rfl hev.size (fun b hb => (hn24 b hb).1)
 replace hev := hev.then he24 (fun b hb => .inr (hfr.at 0 rfl b hb))
 replace hfr := hfr2
 clear hfr2
 replace ho22 := hw24 (fl [blk a24, [b19], [b0_3], M]) hst.new
 clear hw24
 refine x_u 1 [(9, .slice a24 ((([] : List Int) ++ x9.1)).length c24)] (x_ek (c_seq (c_sp (x_u 1 [(30, .slice a24 ((([] : List Int) ++ x9.1)).length c24)] (x_len (vs := [.slice a24 ((([] : List Int) ++ x9.1)).length c24]) (Vi (((([] : List Int) ++ x9.1)).length : Int)) rfl rfl rfl (reads_len tsl22 _ _ _ _ _) ?_)))))
 refine x_u 1 [(32, Vi 0)] (x_ek (c_block ?_))
 have hpk := hms.pick [some 2, some 1, some 0, some 3] [[b0_3], [b19], blk a24, M] rfl
 have hsu := pick_sub (ls := [blk a24, [b19], [b0_3], M]) [some 2, some 1, some 0, some 3] [[b0_3], [b19], blk a24, M] rfl
 replace hf3_2 := hf3_2.sub hsu
 replace hf7_1 := hf7_1.sub hsu
 replace hf13_1 := hf13_1.sub hsu
 replace hf13_2 := hf13_2.sub hsu
 replace hf13_3 := hf13_3.sub hsu
 replace hf13_4 := hf13_4.sub hsu
 replace ho22 := ho22.sub hsu
 replace hms := hpk
 replace hfr := hfr.pick [some 2, some 1, some 0] [[b0_3], [b19], blk a24] rfl
 clear hpk hsu
 obtain ⟨d26, hd26, h26⟩ := bind_some h
 obtain ⟨m26, hd26⟩ := loop_some hd26
 refine c_loop (loop_rule hmx (σ := Nat × Int × (List Int) × Int) (fun s => match s with | (_, e4_l26_1, d23_l26, t32__s32_l26) => [(3, Vp b0_3 0), (4, .slice a0_7 (x6.1).length c0_7), (6, Vp b19 0), (8, Vi x12.2.2), (9, .slice a24 (d23_l26).length c24), (31, Vi (((([] : List Int) ++ x9.1)).length : Int)), (32, Vi t32__s32_l26)]) (fun s w' => match s with | (m, e4_l26_1, d23_l26, t32__s32_l26) => loopN (law17_PlannerRoom_L26 x2 x9) m (e4_l26_1, d23_l26, t32__s32_l26) = some d26 ∧ Ev [] w w' ∧ MS w' [[b0_3], [b19], blk a24, M] ∧ FR w.heap.size [[b0_3], [b19], blk a24] ∧ SlR (eInt .i64) w' (fl [[b0_3], [b19], blk a24, M]) a1_3 c1_3 x2.1 ∧ w'.heap[b0_3]? = some (.cells #[.slice a1_3 (x2.1).length c1_3, Vi e4_l26_1] 90 (0, 0)) ∧ SlR (eIt4) w' (fl [[b0_3], [b19], blk a24, M]) a0_7 c0_7 x6.1 ∧ SlR (eIt4) w' (fl [[b0_3], [b19], blk a24, M]) a0_13 c0_13 x12.1.1.1 ∧ SlR (eInt .i64) w' (fl [[b0_3], [b19], blk a24, M]) a2_13 c2_13 x12.1.2.1.1.2 ∧ SlR (eInt .i64) w' (fl [[b0_3], [b19], blk a24, M]) a4_13 c4_13 x12.1.2.1.2 ∧ SlR (eInt .i64) w' (fl [[b0_3], [b19], blk a24, M]) a6_13 c6_13 x12.1.2.2 ∧ w'.heap[b19]? = some (.cells #[.slice a0_13 (x12.1.1.1).length c0_13, Vi x12.1.1.2, Vi x12.1.2.1.1.1, .slice a2_13 (x12.1.2.1.1.2).length c2_13, .slice a4_13 (x12.1.2.1.2).length c4_13, .slice a6_13 (x12.1.2.2).length c6_13] 67 (0, 0)) ∧ OwnS (eInt .i64) 3 w' (fl [[b0_3], [b19], blk a24, M]) a24 c24 d23_l26) (fun s => s.1) (m26, x9.2, (([] : List Int) ++ x9.1), 0) ⟨rfl, rfl, rfl, rfl, rfl, rfl, rfl, trivial⟩ ⟨hd26, hev, hms, hfr, hf3_2, hf3_1, hf7_1, hf13_1, hf13_2, hf13_3, hf13_4, hb19, ho22⟩ ?_)
 rintro ⟨m26, e4_l26_1, d23_l26, t32__s32_l26⟩ J wl26 ⟨hn26, hev, hms, hfr, hf3_2, hf3_1, hf7_1, hf13_1, hf13_2, hf13_3, hf13_4, hb19, ho22⟩
 rcases m26 with _ | m26
 · exact (loopN_zero hn26).elim
 obtain ⟨t26, h, hn26⟩ := bind_some hn26
 refine c_sp (x_u 1 [(33, .bool (decide (t32__s32_l26 < (((([] : List Int) ++ x9.1)).length : Int))))] (x_ek (c_nm [(3, Vp b0_3 0), (4, .slice a0_7 (x6.1).length c0_7), (6, Vp b19 0), (8, Vi x12.2.2), (9, .slice a24 (d23_l26).length c24), (31, Vi (((([] : List Int) ++ x9.1)).length : Int)), (32, Vi t32__s32_l26), (33, .bool (decide (t32__s32_l26 < (((([] : List Int) ++ x9.1)).length : Int))))] (fun J => ?_))))
 refine c_seq (c_if (decide (t32__s32_l26 < (((([] : List Int) ++ x9.1)).length : Int))) rfl h (fun h => ?_) (fun h => ?_))
 · refine c_skip (k_then (c_seq (c_block (c_sp (x_u 2 [(34, Vi t32__s32_l26), (10, Vi t32__s32_l26)] ?_)))))
   refine x_ek (c_drawn [b0_3] [(0, false), (1, false), (2, false), (3, false), (4, false), (5, false), (6, false), (7, true), (8, true), (9, true)] _ (by kernel_rfl) rfl ?_)
   have hst := Stp.ext (ls := [[b0_3], [b19], blk a24, M]) (Ev.drew wl26)
   replace hf3_1 := (Ev.drew wl26).box hf3_1 nn
   replace hf3_2 := hf3_2.step hst
   replace hf7_1 := hf7_1.step hst
   replace hb19 := (Ev.drew wl26).box hb19 nn
   replace hf13_1 := hf13_1.step hst
   replace hf13_2 := hf13_2.step hst
   replace hf13_3 := hf13_3.step hst
   replace hf13_4 := hf13_4.step hst
   replace ho22 := ho22.step hst (Ev.drew wl26) nn2
   replace hms := hms.ev (Ev.drew wl26)
   replace hev := hev.ext (Ev.drew wl26)
   refine x_u 2 [(35, .slice a24 (d23_l26).length c24), (36, Vi t32__s32_l26)] ?_
   obtain ⟨x28, hx28, h⟩ := bind_some h
   obtain ⟨g28, cs28, ha28, hr28, hc28, hR⟩ := own_index (Mo := [b0_3]) tsl22 ho22 hx28
   obtain rfl := hR
   refine x_indexAddr (xv := .slice a24 (d23_l26).length c24) (yv := Vi t32__s32_l26) (.pointer (some ⟨g28, (Int.toNat t32__s32_l26) * (eInt .i64).n, none⟩)) rfl rfl rfl rfl hr28 (x_load (xv := .pointer (some ⟨g28, (Int.toNat t32__s32_l26) * (eInt .i64).n, none⟩)) (Vi x28) rfl rfl rfl (reads_cell0 tcell3 (CellsAt.away hc28 ((hms.apart 2 0 rfl rfl rfl) _ (blk_mem ha28))) (fun b hb => hb)) (x_u 1 [(39, Vp b0_3 0)] (x_buildSlice (vs := [(0, Vi 0), (1, Vi 100), (2, Vi 1000)]) #[Vi 0, Vi 100, Vi 1000] 3 rfl rfl rfl (by kernel_rfl) (fun b30 w30 hq30 hb30 he30 hz30 => ?_))))
   refine ⟨.inr (he30.nil), ?_⟩
   have hms0 := hms
   have hst := Stp.ext (ls := [[b0_3], [b19], blk a24, M]) he30
   replace hf3_1 := he30.box hf3_1 nn
   replace hf3_2 := hf3_2.step hst
   replace hf7_1 := hf7_1.step hst
   replace hb19 := he30.box hb19 nn
   replace hf13_1 := hf13_1.step hst
   replace hf13_2 := hf13_2.step hst
   replace hf13_3 := hf13_3.step hst
   replace hf13_4 := hf13_4.step hst
   replace ho22 := ho22.step hst he30 nn2
   replace hms := hms.ev he30
   replace hev := hev.ext he30
   have hs30 : SlR (eInt .i64) w30 (fl [[b0_3], [b19], blk a24, M]) (Ad b30 0) 3 ([0, 100, 1000]) := ro_of_box hms0 hq30 hb30 rfl rfl (cells_at (cs := [Vi 0, Vi 100, Vi 1000]) (CellsOf.cons (c := [Vi 0]) rfl (CellsOf.cons (c := [Vi 100]) rfl (CellsOf.cons (c := [Vi 1000]) rfl CellsOf.nil))))
   clear hb30 hms0
   obtain ⟨x32, hx, h⟩ := bind_some h
   have hpk : MS w30 ([[b0_3]] ++ [[b19], blk a24, M]) := hms.pick [some 0, some 1, some 2, some 3] _ rfl
   have hsb0 : ∀ x ∈ fl ([[b0_3]] ++ [[b19], blk a24, M]), x ∈ fl [[b0_3], [b19], blk a24, M] := pick_sub [some 0, some 1, some 2, some 3] _ rfl
   have hsb : ∀ x ∈ fl ([[b0_3]] ++ [(fl [[b19], blk a24, M])]), x ∈ fl [[b0_3], [b19], blk a24, M] := fun x hx => hsb0 x (fl_unfold x hx)
   have hcall := gen_Maker_Pick_w b0_3 a1_3 c1_3 x2.1 e4_l26_1 (Ad b30 0) 3 ([0, 100, 1000]) _ w30 (fl [[b19], blk a24, M]) (hpk.fold (P := [[b0_3]])) (hf3_2.sub hsb) hf3_1 (hs30.sub hsb) hx
   refine x_call 26 #[] #[] [Vp b0_3 0, .slice (Ad b30 0) ([0, 100, 1000]).length 3] _ rfl rfl rfl rfl hcall ?_
   rintro v w33 ⟨rfl, he33, hp33_0⟩
   clear hcall hx
   refine ⟨.inr he33, ?_⟩
   have hpk2 : MS w30 ([[b0_3]] ++ [[b19], blk a24, M]) := hms.pick [some 0, some 1, some 2, some 3] _ rfl
   have hsb2 : ∀ x ∈ fl ([[b0_3]] ++ [[b19], blk a24, M]), x ∈ fl [[b0_3], [b19], blk a24, M] := pick_sub [some 0, some 1, some 2, some 3] _ rfl
   have hst0 := Stp.call (LS := [[b0_3], [b19], blk a24, M]) (res := []) (par := [[b0_3]]) (R := [[b19], blk a24, M]) he33 (fun b hb => hsb2 b (fl_left' (P := [[b0_3]]) b hb)) (FR.nil _) (NP.init _ _) (fun x hx => hsb2 x (fl_right' (P := [[b0_3]]) x hx))
   have hsn : ∀ x ∈ fl [[b0_3], [b19], blk a24, M], x ∈ fl ([] ++ ([[b0_3]] ++ [[b19], blk a24, M])) := pick_sub [some 0, some 1, some 2, some 3] _ rfl
   have hst := hst0.res hsn
   replace hf3_2 := hf3_2.step hst
   replace hf7_1 := hf7_1.step hst
   replace hb19 := he33.box hb19 ((MS.outs (P := [[b0_3]]) hpk2 0 rfl) _ mem1)
   replace hf13_1 := hf13_1.step hst
   replace hf13_2 := hf13_2.step hst
   replace hf13_3 := hf13_3.step hst
   replace hf13_4 := hf13_4.step hst
   replace ho22 := ho22.step hst he33 (MS.outs (P := [[b0_3]]) hpk2 1 rfl)
   replace hms := hms.ev he33
   have hPf : ∀ b ∈ fl [[b0_3]], w.heap.size ≤ b := FR.mem (ls := [[b0_3]]) (hfr.pick [some 0] _ rfl)
   replace hev := hev.then he33 (fun b hb => .inr (hPf b hb))
   replace hf3_1 := hp33_0
   clear hpk hsb hsb0 hpk2 hsb2 hst0 hsn hst
   refine x_u 1 [(42, Vi (IntKind.i64.wrap (x28 + x32.1)))] ?_
   obtain ⟨x34, hx34, h⟩ := bind_some h
   obtain ⟨g34, cs34, ha34, hr34, hc34, hR⟩ := own_index (Mo := []) tsl22 ho22 hx34
   obtain rfl := hR
   refine x_indexAddr (xv := .slice a24 (d23_l26).length c24) (yv := Vi t32__s32_l26) (.pointer (some ⟨g34, (Int.toNat t32__s32_l26) * (eInt .i64).n, none⟩)) rfl rfl rfl rfl hr34 ?_
   have hxs35_29 := hx28
   obtain ⟨w36, hr36, he36, ho36⟩ := own_storeE ha34 (y := IntKind.i64.wrap (x28 + x32.1)) 0 (Vi (IntKind.i64.wrap (x28 + x32.1))) tcell3 ho22 (mem_flat 2 rfl) hx34 rfl rfl (fun _ _ _ hR => set_int hR)
   refine x_store w36 (xv := .pointer (some ⟨g34, (Int.toNat t32__s32_l26) * (eInt .i64).n, none⟩)) (yv := Vi (IntKind.i64.wrap (x28 + x32.1))) rfl rfl rfl rfl hr36 (inl1 ?_)
   have hst := Stp.ev' (ls := [[b0_3], [b19], blk a24, M]) he36 (mem_flat 2 rfl)
   replace hf3_1 := he36.box hf3_1 (hms.apart 0 2 rfl rfl rfl _ mem1)
   replace hf3_2 := hf3_2.step hst
   replace hf7_1 := hf7_1.step hst
   replace hb19 := he36.box hb19 (hms.apart 1 2 rfl rfl rfl _ mem1)
   replace hf13_1 := hf13_1.step hst
   replace hf13_2 := hf13_2.step hst
   replace hf13_3 := hf13_3.step hst
   replace hf13_4 := hf13_4.step hst
   replace hms := hms.ev he36
   replace hev := hev.then he36 (fun b hb => .inr (hfr.at 2 rfl b hb))
   replace ho22 := ho36
   have hsl : (Value.slice a24 (d23_l26).length c24) = (Value.slice a24 ((d23_l26.set (Int.toNat t32__s32_l26) (IntKind.i64.wrap (x28 + x32.1)))).length c24) := by first | (rw [List.length_set]; done) | simp only [List.length_set]
   try rw [hsl]
   clear hsl
   obtain ⟨_, hxs35_29⟩ : ∃ y, idx (d23_l26.set (Int.toNat t32__s32_l26) (IntKind.i64.wrap (x28 + x32.1))) t32__s32_l26 = some y := idx_set_any hxs35_29 _ _
   refine x_end rfl (k_block (k_then (c_plain (x_u 2 [(44, Vi (IntKind.i64.wrap (t32__s32_l26 + 1))), (32, Vi (IntKind.i64.wrap (t32__s32_l26 + 1)))] (x_end rfl ?_)))))
   obtain rfl := some_inj h
   exact k_then ⟨(m26, x32.2, (d23_l26.set (Int.toNat t32__s32_l26) (IntKind.i64.wrap (x28 + x32.1))), IntKind.i64.wrap (t32__s32_l26 + 1)), ⟨rfl, rfl, rfl, rfl, rfl, rfl, rfl, trivial⟩, ⟨hn26, hev, hms, hfr, hf3_2, hf3_1, hf7_1, hf13_1, hf13_2, hf13_3, hf13_4, hb19, ho22⟩, Nat.lt_succ_self _⟩
 refine c_exit (k_then_exit ?_)
 obtain rfl := some_inj h
 have hy := some_inj hn26
 subst hy
 replace h := h26
 refine k_then_exit (k_block_in (k_then (c_nm [(3, Vp b0_3 0), (4, .slice a0_7 (x6.1).length c0_7), (6, Vp b19 0), (8, Vi x12.2.2), (9, .slice a24 (d23_l26).length c24)] (fun J => ?_))))
 refine c_sp (x_u 2 [(45, .slice a24 (d23_l26).length c24), (46, Vp b0_3 0)] (x_buildSlice (vs := [(0, Vi 300), (1, Vi 4000)]) #[Vi 300, Vi 4000] 3 rfl rfl rfl (by kernel_rfl) (fun b37 w37 hq37 hb37 he37 hz37 => ?_)))
 refine inl1 ?_
 have hms0 := hms
 have hst := Stp.ext (ls := [[b0_3], [b19], blk a24, M]) he37
 replace hf3_1 := he37.box hf3_1 nn
 replace hf3_2 := hf3_2.step hst
 replace hf7_1 := hf7_1.step hst
 replace hb19 := he37.box hb19 nn
 replace ho22 := ho22.step hst he37 nn2
 replace hms := hms.ev he37
 replace hev := hev.ext he37
 have hs37 : SlR (eInt .i64) w37 (fl [[b0_3], [b19], blk a24, M]) (Ad b37 0) 2 ([300, 4000]) := ro_of_box hms0 hq37 hb37 rfl rfl (cells_at (cs := [Vi 300, Vi 4000]) (CellsOf.cons (c := [Vi 300]) rfl (CellsOf.cons (c := [Vi 4000]) rfl CellsOf.nil)))
 clear hb37 hms0
 obtain ⟨x39, hx, h⟩ := bind_some h
 have hpk : MS w37 ([[b0_3]] ++ [[b19], blk a24, M]) := hms.pick [some 0, some 1, some 2, some 3] _ rfl
 have hsb0 : ∀ x ∈ fl ([[b0_3]] ++ [[b19], blk a24, M]), x ∈ fl [[b0_3], [b19], blk a24, M] := pick_sub [some 0, some 1, some 2, some 3] _ rfl
 have hsb : ∀ x ∈ fl ([[b0_3]] ++ [(fl [[b19], blk a24, M])]), x ∈ fl [[b0_3], [b19], blk a24, M] := fun x hx => hsb0 x (fl_unfold x hx)
 have hcall := gen_Maker_Pick_w b0_3 a1_3 c1_3 x2.1 e4_l26_1 (Ad b37 0) 2 ([300, 4000]) _ w37 (fl [[b19], blk a24, M]) (hpk.fold (P := [[b0_3]])) (hf3_2.sub hsb) hf3_1 (hs37.sub hsb) hx
 refine x_call 26 #[] #[] [Vp b0_3 0, .slice (Ad b37 0) ([300, 4000]).length 2] _ rfl rfl rfl rfl hcall ?_
 rintro v w40 ⟨rfl, he40, hp40_0⟩
 clear hcall hx
 refine inl1 ?_
 have hpk2 : MS w37 ([[b0_3]] ++ [[b19], blk a24, M]) := hms.pick [some 0, some 1, some 2, some 3] _ rfl
 have hsb2 : ∀ x ∈ fl ([[b0_3]] ++ [[b19], blk a24, M]), x ∈ fl [[b0_3], [b19], blk a24, M] := pick_sub [some 0, some 1, some 2, some 3] _ rfl
 have hst0 := Stp.call (LS := [[b0_3], [b19], blk a24, M]) (res := []) (par := [[b0_3]]) (R := [[b19], blk a24, M]) he40 (fun b hb => hsb2 b (fl_left' (P := [[b0_3]]) b hb)) (FR.nil _) (NP.init _ _) (fun x hx => hsb2 x (fl_right' (P := [[b0_3]]) x hx))
 have hsn : ∀ x ∈ fl [[b0_3], [b19], blk a24, M], x ∈ fl ([] ++ ([[b0_3]] ++ [[b19], blk a24, M])) := pick_sub [some 0, some 1, some 2, some 3] _ rfl
 have hst := hst0.res hsn
 replace hf7_1 := hf7_1.step hst
 replace hb19 := he40.box hb19 ((MS.outs (P := [[b0_3]]) hpk2 0 rfl) _ mem1)
 replace ho22 := ho22.step hst he40 (MS.outs (P := [[b0_3]]) hpk2 1 rfl)
 replace hms := hms.ev he40
 have hPf : ∀ b ∈ fl [[b0_3]], w.heap.size ≤ b := FR.mem (ls := [[b0_3]]) (hfr.pick [some 0] _ rfl)
 replace hev := hev.then he40 (fun b hb => .inr (hPf b hb))
 clear hpk hsb hsb0 hpk2 hsb2 hst0 hsn hst
 refine x_buildSlice (vs := [(0, Vi x39.1)]) #[Vi x39.1] 3 rfl rfl rfl (by kernel_rfl) (fun b41 w41 hq41 hb41 he41 hz41 => ?_)
 refine inl1 ?_
 have hms0 := hms
 have hst := Stp.ext (ls := [[b0_3], [b19], blk a24, M]) he41
 replace hf7_1 := hf7_1.step hst
 replace hb19 := he41.box hb19 nn
 replace ho22 := ho22.step hst he41 nn2
 replace hms := hms.ev he41
 replace hev := hev.ext he41
 have hs41 : SlR (eInt .i64) w41 (fl [[b0_3], [b19], blk a24, M]) (Ad b41 0) 1 ([x39.1]) := ro_of_box hms0 hq41 hb41 rfl rfl (cells_at (cs := [Vi x39.1]) (CellsOf.cons (c := [Vi x39.1]) rfl CellsOf.nil))
 clear hb41 hms0
 have hg := guard_l h
 replace h := guard_r h
 obtain ⟨a43, c43, w43, hr43, he43, hn43, hm43, hw43⟩ := own_appendN tel22 22 ho22 (mem_flat 2 rfl) hs41 hg
 refine x_builtin (vs := [.slice a24 (d23_l26).length c24, .slice (Ad b41 0) ([x39.1]).length 1]) _ w43 rfl rfl rfl rfl (run_value _ _ _ _ hr43) (inl1 ?_)
 have hst : Stp (fl [[b0_3], [b19], blk a24, M]) w41 (fl [[b0_3], [b19], blk a43, M]) w43 := Stp.upd 2 he43 rfl (fun b hb => (hn43 b hb).1)
 replace hf7_1 := hf7_1.step hst
 replace hb19 := he43.box hb19 (hms.apart 1 2 rfl rfl rfl _ mem1)
 replace hms : MS w43 [[b0_3], [b19], blk a43, M] := hms.upd 2 he43 rfl hn43
 have hfr2 : FR w.heap.size [[b0_3], [b19], blk a43] := hfr.upd 2 rfl hev.size (fun b hb => (hn43 b hb).1)
 replace hev := hev.then he43 (fun b hb => .inr (hfr.at 2 rfl b hb))
 replace hfr := hfr2
 clear hfr2
 replace ho22 := hw43 (fl [[b0_3], [b19], blk a43, M]) hst.new
 clear hw43
 refine x_u 1 [(9, .slice a43 ((d23_l26 ++ [x39.1])).length c43)] (x_ek (c_sp (x_u 2 [(52, .slice a0_7 (x6.1).length c0_7), (53, .slice a43 ((d23_l26 ++ [x39.1])).length c43)] ?_)))
 obtain ⟨x44, hx, h⟩ := bind_some h
 have hpk := hms.pick [some 0, some 1, some 3] ([] ++ [[b0_3], [b19], M]) rfl
 have hsb := sub_fold (ls := [[b0_3], [b19], blk a43, M]) [some 0, some 1, some 3] [[b0_3], [b19], M] rfl
 have hcall := planner_Plan_w a0_7 c0_7 x6.1 a43 c43 (d23_l26 ++ [x39.1]) _ w43 (fl [[b0_3], [b19], M]) (MS.fold (P := []) hpk) (hf7_1.sub hsb) (ho22.ro hsb (pick_outf hms 2 rfl [some 0, some 1, some 3] [[b0_3], [b19], M] rfl rfl)) hx
 refine x_call 25 #[] #[] [.slice a0_7 (x6.1).length c0_7, .slice a43 ((d23_l26 ++ [x39.1])).length c43] _ rfl rfl rfl rfl hcall ?_
 rintro v w45 ⟨a0_45, c0_45, a2_45, c2_45, a4_45, c4_45, a6_45, c6_45, a8_45, c8_45, rfl, he45, hmn45, hfn45, hf45_1, hf45_2, hf45_3, hf45_4, hf45_5⟩
 clear hcall hx
 refine inl1 ?_
 replace hb19 := he45.box hb19 nn
 replace hms := MS.call0 [blk a0_45, blk a2_45, blk a4_45, blk a6_45, blk a8_45] [blk a0_45, blk a2_45, blk a4_45, blk a6_45, blk a8_45, [b0_3], [b19], blk a43, M] hms he45 hmn45 hfn45 rfl
 have hfr2 := FR.call0 [blk a0_45, blk a2_45, blk a4_45, blk a6_45, blk a8_45, [b0_3], [b19], blk a43] hev.size hfn45 hfr rfl
 replace hev := hev.ext he45
 replace hfr := hfr2
 clear hfr2
 clear hpk hsb hst
 have hpk := hms.pick [some 1, some 2, some 3, some 4, some 5, some 6, some 7, some 8] [blk a2_45, blk a4_45, blk a6_45, blk a8_45, [b0_3], [b19], blk a43, M] rfl
 replace hms := hpk
 replace hfr := hfr.pick [some 1, some 2, some 3, some 4, some 5, some 6, some 7] [blk a2_45, blk a4_45, blk a6_45, blk a8_45, [b0_3], [b19], blk a43] rfl
 clear hpk
 have hpk := hms.pick [some 1, some 2, some 3, some 4, some 5, some 6, some 7] [blk a4_45, blk a6_45, blk a8_45, [b0_3], [b19], blk a43, M] rfl
 replace hms := hpk
 replace hfr := hfr.pick [some 1, some 2, some 3, some 4, some 5, some 6] [blk a4_45, blk a6_45, blk a8_45, [b0_3], [b19], blk a43] rfl
 clear hpk
 have hpk := hms.pick [some 1, some 2, some 3, some 4, some 5, some 6] [blk a6_45, blk a8_45, [b0_3], [b19], blk a43, M] rfl
 replace hms := hpk
 replace hfr := hfr.pick [some 1, some 2, some 3, some 4, some 5] [blk a6_45, blk a8_45, [b0_3], [b19], blk a43] rfl
 clear hpk
 have hpk := hms.pick [some 1, some 2, some 3, some 4, some 5] [blk a8_45, [b0_3], [b19], blk a43, M] rfl
 replace hms := hpk
 replace hfr := hfr.pick [some 1, some 2, some 3, some 4] [blk a8_45, [b0_3], [b19], blk a43] rfl
 clear hpk
 have hpk := hms.pick [some 1, some 2, some 3, some 4] [[b0_3], [b19], blk a43, M] rfl
 replace hms := hpk
 replace hfr := hfr.pick [some 1, some 2, some 3] [[b0_3], [b19], blk a43] rfl
 clear hpk
 refine x_u 4 [(51, .tuple #[.agg #[.slice a0_45 (x44.1.1.1).length c0_45, Vi x44.1.1.2, Vi x44.1.2.1.1.1, .slice a2_45 (x44.1.2.1.1.2).length c2_45, .slice a4_45 (x44.1.2.1.2).length c4_45, .slice a6_45 (x44.1.2.2).length c6_45], .slice a8_45 (x44.2.1).length c8_45, Vi x44.2.2]), (55, .agg #[.slice a0_45 (x44.1.1.1).length c0_45, Vi x44.1.1.2, Vi x44.1.2.1.1.1, .slice a2_45 (x44.1.2.1.1.2).length c2_45, .slice a4_45 (x44.1.2.1.2).length c4_45, .slice a6_45 (x44.1.2.2).length c6_45]), (56, .slice a8_45 (x44.2.1).length c8_45), (57, Vi x44.2.2)] (x_alloc (z := .agg #[.slice none 0 0, Vi 0, Vi 0, .slice none 0 0, .slice none 0 0, .slice none 0 0]) rfl rfl (by kernel_rfl) (fun b51 w51 hq51 hb51 he51 hz51 => ?_))
 replace hb51 : w51.heap[b51]? = some (.cells #[.slice none 0 0, Vi 0, Vi 0, .slice none 0 0, .slice none 0 0, .slice none 0 0] 67 (0, 0)) := hb51
 refine inl1 ?_
 replace hb19 := he51.box hb19 nn
 replace hms := hms.box he51 hq51 hb51
 replace hfr := hfr.box hev.size hq51
 replace hev := hev.ext he51
 obtain ⟨w53, hr53, hb53, he53⟩ := store_boxagg 0 [.slice a0_45 (x44.1.1.1).length c0_45, Vi x44.1.1.2, Vi x44.1.2.1.1.1, .slice a2_45 (x44.1.2.1.1.2).length c2_45, .slice a4_45 (x44.1.2.1.2).length c4_45, .slice a6_45 (x44.1.2.2).length c6_45] #[.slice a0_45 (x44.1.1.1).length c0_45, Vi x44.1.1.2, Vi x44.1.2.1.1.1, .slice a2_45 (x44.1.2.1.1.2).length c2_45, .slice a4_45 (x44.1.2.1.2).length c4_45, .slice a6_45 (x44.1.2.2).length c6_45] tagg67 hb51 rfl rfl rfl
 refine x_store w53 (xv := Vp b51 0) (yv := .agg #[.slice a0_45 (x44.1.1.1).length c0_45, Vi x44.1.1.2, Vi x44.1.2.1.1.1, .slice a2_45 (x44.1.2.1.1.2).length c2_45, .slice a4_45 (x44.1.2.1.2).length c4_45, .slice a6_45 (x44.1.2.2).length c6_45]) rfl rfl rfl rfl hr53 (inl1 ?_)
 replace hb19 := he53.box hb19 (hms.apart 2 0 rfl rfl rfl _ mem1)
 replace hev := hev.then he53 (fun b hb => .inr (hfr.at 0 rfl b hb))
 replace hb51 := hb53
 refine x_u 2 [(12, .slice a8_45 (x44.2.1).length c8_45), (13, Vi x44.2.2)] (x_ek (c_nm [(6, Vp b19 0), (8, Vi x12.2.2), (11, Vp b51 0), (13, Vi x44.2.2)] (fun J => ?_)))
 refine c_seq (c_sp (x_u 2 [(58, Vi x12.2.2), (59, .bool (x12.2.2 != 0))] (x_ek (c_if (x12.2.2 != 0) rfl h (fun h => ?_) (fun h => ?_)))))
 · refine c_sp (x_u 4 [(60, Vi x12.2.2), (61, .bool (x12.2.2 == 15)), (62, Vi x44.2.2), (63, .bool (x44.2.2 == 15))] (x_binop (.bool ((x12.2.2 == 15) == (x44.2.2 == 15))) (.bool (x12.2.2 == 15)) (.bool (x44.2.2 == 15)) rfl rfl rfl rfl (vb_booleql tbool4) (x_u 1 [(65, .bool ((x12.2.2 == 15) == (x44.2.2 == 15)))] (x_if 65 ((x12.2.2 == 15) == (x44.2.2 == 15)) rfl h (fun h => ?_) (fun h => ?_)))))
   · refine x_u 3 [(66, Vi x12.2.2), (67, .bool (x12.2.2 == 15)), (68, .bool (x12.2.2 == 15))] (x_if 68 (x12.2.2 == 15) rfl h (fun h => ?_) (fun h => ?_))
     · refine x_u 5 [(69, undef), (70, undef), (71, .bool true), (72, .bool true), (73, .bool true)] ?_
       obtain ⟨x55, hx, h⟩ := bind_some h
       have hcall := law17_sane_w _ w53 hx
       refine x_call 18 #[] #[] [] _ rfl rfl rfl rfl hcall ?_
       rintro v w56 ⟨rfl, he56⟩
       clear hcall hx
       refine inl1 ?_
       replace hev := hev.ext he56
       refine x_u 2 [(75, .bool x55), (2, .bool x55)] (x_ek (c_nm [(2, .bool x55)] (fun J => ?_)))
       refine c_ret (k_then_ret (r_ret (r_vals [.bool x55] ⟨rfl, trivial⟩ ?_)))
       obtain rfl := some_inj h
       exact ⟨rfl, hev⟩
     refine x_u 5 [(69, Vi x12.2.2), (70, .bool (x12.2.2 == 14)), (71, .bool (x12.2.2 == 14)), (72, .bool (x12.2.2 == 14)), (73, .bool (x12.2.2 == 14))] (x_if 73 (x12.2.2 == 14) rfl h (fun h => ?_) (fun h => ?_))
     · obtain ⟨x57, hx, h⟩ := bind_some h
       have hcall := law17_sane_w _ w53 hx
       refine x_call 18 #[] #[] [] _ rfl rfl rfl rfl hcall ?_
       rintro v w58 ⟨rfl, he58⟩
       clear hcall hx
       refine inl1 ?_
       replace hev := hev.ext he58
       refine x_u 2 [(75, .bool x57), (2, .bool x57)] (x_ek (c_nm [(2, .bool x57)] (fun J => ?_)))
       refine c_ret (k_then_ret (r_ret (r_vals [.bool x57] ⟨rfl, trivial⟩ ?_)))
       obtain rfl := some_inj h
       exact ⟨rfl, hev⟩
     refine x_u 3 [(74, undef), (75, .bool false), (2, .bool false)] (x_ek (c_nm [(2, .bool false)] (fun J => ?_)))
     refine c_ret (k_then_ret (r_ret (r_vals [.bool false] ⟨rfl, trivial⟩ ?_)))
     obtain rfl := some_inj h
     exact ⟨rfl, hev⟩
   refine x_u 11 [(66, undef), (67, undef), (68, undef), (69, undef), (70, undef), (71, undef), (72, .bool false), (73, .bool false), (74, undef), (75, .bool false), (2, .bool false)] (x_ek (c_nm [(2, .bool false)] (fun J => ?_)))
   refine c_ret (k_then_ret (r_ret (r_vals [.bool false] ⟨rfl, trivial⟩ ?_)))
   obtain rfl := some_inj h
   exact ⟨rfl, hev⟩
 refine c_skip (k_then (c_sp (x_u 3 [(76, Vi x44.2.2), (77, .bool (x44.2.2 == 0)), (78, .bool (x44.2.2 == 0))] (x_if 78 (x44.2.2 == 0) rfl h (fun h => ?_) (fun h => ?_)))))
 · refine x_fieldAddr (xv := Vp b51 0) (Vp b51 2) rfl rfl rfl (reads_field tfld67_1 _ _) (x_fieldAddr (xv := Vp b51 2) (Vp b51 2) rfl rfl rfl (reads_field tfld54_0 _ _) (x_fieldAddr (xv := Vp b51 2) (Vp b51 2) rfl rfl rfl (reads_field tfld52_0 _ _) (x_load (xv := Vp b51 2) (Vi x44.1.2.1.1.1) rfl rfl rfl (reads_box tcell3 hb51 nn 2 _ rfl) (x_fieldAddr (xv := Vp b19 0) (Vp b19 2) rfl rfl rfl (reads_field tfld67_1 _ _) (x_fieldAddr (xv := Vp b19 2) (Vp b19 2) rfl rfl rfl (reads_field tfld54_0 _ _) ?_)))))
   refine x_fieldAddr (xv := Vp b19 2) (Vp b19 2) rfl rfl rfl (reads_field tfld52_0 _ _) (x_load (xv := Vp b19 2) (Vi x12.1.2.1.1.1) rfl rfl rfl (reads_box tcell3 hb19 nn 2 _ rfl) (x_u 3 [(87, .bool (decide (x44.1.2.1.1.1 ≤ x12.1.2.1.1.1))), (88, .bool (decide (x44.1.2.1.1.1 ≤ x12.1.2.1.1.1))), (89, .bool (decide (x44.1.2.1.1.1 ≤ x12.1.2.1.1.1)))] (x_if 89 (decide (x44.1.2.1.1.1 ≤ x12.1.2.1.1.1)) rfl h (fun h => ?_) (fun h => ?_))))
   · obtain ⟨x59, hx, h⟩ := bind_some h
     have hcall := law17_sane_w _ w53 hx
     refine x_call 18 #[] #[] [] _ rfl rfl rfl rfl hcall ?_
     rintro v w60 ⟨rfl, he60⟩
     clear hcall hx
     refine inl1 ?_
     replace hev := hev.ext he60
     refine x_u 2 [(91, .bool x59), (2, .bool x59)] (x_ek (c_nm [(2, .bool x59)] (fun J => ?_)))
     refine c_ret (r_ret (r_vals [.bool x59] ⟨rfl, trivial⟩ ?_))
     obtain rfl := some_inj h
     exact ⟨rfl, hev⟩
   refine x_u 3 [(90, undef), (91, .bool false), (2, .bool false)] (x_ek (c_nm [(2, .bool false)] (fun J => ?_)))
   refine c_ret (r_ret (r_vals [.bool false] ⟨rfl, trivial⟩ ?_))
   obtain rfl := some_inj h
   exact ⟨rfl, hev⟩
 refine x_u 14 [(79, undef), (80, undef), (81, undef), (82, undef), (83, undef), (84, undef), (85, undef), (86, undef), (87, undef), (88, .bool false), (89, .bool false), (90, undef), (91, .bool false), (2, .bool false)] (x_ek (c_nm [(2, .bool false)] (fun J => ?_)))
 refine c_ret (r_ret (r_vals [.bool false] ⟨rfl, trivial⟩ ?_))
 obtain rfl := some_inj h
 exact ⟨rfl, hev⟩

end Go.Proofs.YtlejnkhaphlooaaGreat
