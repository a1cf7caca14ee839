
/- Walks, printed by program: each function returns what the partial function of the same name returns. Conditions: those of each theorem. -/
import Derived.Test.YtlejnkhaphlooaaGreatGT
import Derived.Test.YtlejnkhaphlooaaGreatGassign
import Derived.Test.YtlejnkhaphlooaaGreatGcertificate
import Derived.Test.YtlejnkhaphlooaaGreatGgen
import Derived.Test.YtlejnkhaphlooaaGreatGlaw17sane
import Derived.Test.YtlejnkhaphlooaaGreatGlaw17tracks
import Derived.Test.YtlejnkhaphlooaaGreatGplanner
import Derived.Test.YtlejnkhaphlooaaGreatGrollin
set_option linter.unusedVariables false
set_option linter.unusedSimpArgs false
set_option maxRecDepth 4000
namespace Go.Proofs.YtlejnkhaphlooaaGreat
open Go Go.V Go.Proofs
def law17_PlannerProved (p0 : List Int) : Option Bool :=
((gen_New p0).bind fun x2 =>
((gen_Maker_Items x2.1 x2.2 12).bind fun x6 =>
((law17_tracks x2.1 x6.2).bind fun x9 =>
((planner_Plan x6.1 x9.1).bind fun x12 =>
(if (x12.2.2 == 0) = true then
(if (((x12.2.1).length : Int) == 0) = true then
((planner_Check x12.1.1.1 x12.1.1.2 x12.1.2.1.1.1 x12.1.2.1.1.2 x12.1.2.1.2 x12.1.2.2 x9.1).bind fun x23 =>
(if (x23 == 0) = true then
((gen_Items x12.1.1.1 x6.1).bind fun x25 =>
(if x25 = true then
((law17_sane).bind fun x27 =>
some x27)
else
some false))
else
some false))
else
some false)
else
(if (x12.2.2 == 15) = true then
((law17_sane).bind fun x29 =>
some x29)
else
((planner_Schemes x6.1).bind fun x31 =>
(if (x12.2.2 != 14) = true then
some false
else
(if (x31.2 != 0) = true then
some false
else
(if (((x31.1).length : Int) == 0) = true then
some false
else
((idx x31.1 0).bind fun x35 =>
((certificate_Make x6.1 x35.1).bind fun x40 =>
((rollin_Loads x6.1 x35.1 x40.1.1.1 x40.1.1.2).bind fun x47 =>
(if (x40.2 == 0) = true then
(if (x47.2 == 0) = true then
((assign_Refuses x47.1 x9.1 x12.2.1).bind fun x50 =>
(if x50 = true then
((law17_sane).bind fun x52 =>
some x52)
else
some false))
else
some false)
else
some false))))))))))))))
theorem law17_PlannerProved_w (a_p0 : Option Addr) (c_p0 : Nat) (p0 : List Int) (r : Bool) (w : World) (M : List Nat) (hms : MS w [M]) (hs_p0 : SlR (eInt .i64) w (fl [M]) a_p0 c_p0 p0) (h : law17_PlannerProved p0 = some r) : CallVC Tryz.prog 9 [Vl a_p0 p0 c_p0] w fun v w' => v = .bool r ∧ Ev [] w w' := by
 refine calls_vc hmx Tryz.func9 (by kernel_rfl) rfl (rs := [.tmp 2]) rfl (by kernel_rfl) (args := [Vl a_p0 p0 c_p0]) rfl ?_
 have hev : Ev [] w w := Ev.refl _ _
 refine c_sp (x_u 1 [(2, .bool false)] (x_ek (c_sp (x_u 1 [(16, Vl a_p0 p0 c_p0)] ?_))))
 obtain ⟨x2, hx, h⟩ := bind_some h
 have hcall := gen_New_w a_p0 c_p0 p0 _ w (fl [M]) (MS.fold (P := []) hms) (hs_p0.sub fl1) hx
 refine x_call 10 #[] #[] [Vl a_p0 p0 c_p0] _ rfl rfl rfl rfl hcall ?_
 rintro v w3 ⟨b0_3, a1_3, c1_3, rfl, he3, hmn3, hfn3, hf3_1, hf3_2⟩
 clear hcall hx
 refine inl1 ?_
 have hpk2 : MS w ([] ++ [M]) := hms.pick [some 0] _ rfl
 have hsn : ∀ x ∈ fl [[b0_3], M], x ∈ fl ([[b0_3]] ++ ([] ++ [M])) := pick_sub [some 0, some 1] _ rfl
 replace hms : MS w3 [[b0_3], M] := (MS.call (P := []) (R := [M]) (res := [[b0_3]]) (par := []) hpk2 he3 hmn3 hfn3 (NP.init _ _)).pick [some 0, some 1] _ rfl
 have hfr2 : FR w.heap.size [[b0_3]] := (FR.cons (fun b hb => Nat.le_trans hev.size (hfn3.at 0 rfl b hb)) (FR.nil _))
 replace hev := hev.ext he3
 replace hfr := hfr2
 clear hfr2
 have hsp : ∀ x ∈ fl [[b0_3], M], x ∈ fl ([[b0_3]] ++ ([] ++ [(fl [M])])) := fun x hx => fl_tot (res := [[b0_3]]) (par := []) (R := [M]) x (hsn x hx)
 replace hf3_2 := hf3_2.sub hsp
 clear hpk2 hsn
 refine x_u 1 [(3, Vp b0_3 0)] (x_ek (c_sp (x_u 1 [(18, Vp b0_3 0)] ?_)))
 obtain ⟨x6, hx, h⟩ := bind_some h
 have hpk : MS w3 ([[b0_3]] ++ [M]) := hms.pick [some 0, some 1] _ rfl
 have hsb0 : ∀ x ∈ fl ([[b0_3]] ++ [M]), x ∈ fl [[b0_3], M] := pick_sub [some 0, some 1] _ rfl
 have hsb : ∀ x ∈ fl ([[b0_3]] ++ [(fl [M])]), x ∈ fl [[b0_3], M] := fun x hx => hsb0 x (fl_unfold x hx)
 have hcall := gen_Maker_Items_w b0_3 a1_3 c1_3 x2.1 x2.2 12 _ w3 (fl [M]) (hpk.fold (P := [[b0_3]])) (hf3_2.sub hsb) hf3_1 hx
 refine x_call 19 #[] #[] [Vp b0_3 0, Vi 12] _ rfl rfl rfl rfl hcall ?_
 rintro v w7 ⟨a0_7, c0_7, rfl, he7, hp7_0, hmn7, hfn7, hf7_1⟩
 clear hcall hx
 refine inl1 ?_
 have hpk2 : MS w3 ([[b0_3]] ++ [M]) := hms.pick [some 0, some 1] _ rfl
 have hsb2 : ∀ x ∈ fl ([[b0_3]] ++ [M]), x ∈ fl [[b0_3], M] := pick_sub [some 0, some 1] _ rfl
 have hst0 := Stp.call (LS := [[b0_3], M]) (res := [blk a0_7]) (par := [[b0_3]]) (R := [M]) he7 (fun b hb => hsb2 b (fl_left' (P := [[b0_3]]) b hb)) hfn7 (NP.init _ _) (fun x hx => hsb2 x (fl_right' (P := [[b0_3]]) x hx))
 have hsn : ∀ x ∈ fl [blk a0_7, [b0_3], M], x ∈ fl ([blk a0_7] ++ ([[b0_3]] ++ [M])) := pick_sub [some 0, some 1, some 2] _ rfl
 have hst := hst0.res hsn
 replace hf3_2 := hf3_2.step hst
 replace hms : MS w7 [blk a0_7, [b0_3], M] := (MS.call (P := [[b0_3]]) (R := [M]) (res := [blk a0_7]) (par := [[b0_3]]) hpk2 he7 hmn7 hfn7 (NP.init _ _)).pick [some 0, some 1, some 2] _ rfl
 have hPf : ∀ b ∈ fl [[b0_3]], w.heap.size ≤ b := FR.mem (ls := [[b0_3]]) (hfr.pick [some 0] _ rfl)
 have hfr2 : FR w.heap.size [blk a0_7, [b0_3]] := (FR.cons (fun b hb => Nat.le_trans hev.size (hfn7.at 0 rfl b hb)) (FR.cons (hfr.at 0 rfl) (FR.nil _)))
 replace hev := hev.then he7 (fun b hb => .inr (hPf b hb))
 replace hfr := hfr2
 clear hfr2
 replace hf3_1 := hp7_0
 replace hf7_1 := OwnS.plain (M' := fl [blk a0_7, [b0_3], M]) (plain_prod (plain_int _) (plain_prod (plain_int _) (plain_prod (plain_int _) (plain_int _)))) hf7_1
 clear hpk hsb hsb0 hpk2 hsb2 hst0 hsn hst
 have hpk := hms.pick [some 1, some 2] [[b0_3], M] rfl
 have hsu := pick_sub (ls := [blk a0_7, [b0_3], M]) [some 1, some 2] [[b0_3], M] rfl
 replace hf3_2 := hf3_2.sub hsu
 replace hf7_1 := hf7_1.ro hsu (pick_out hms 0 rfl [some 1, some 2] [[b0_3], M] rfl rfl)
 replace hms := hpk
 replace hfr := hfr.pick [some 1] [[b0_3]] rfl
 clear hpk hsu
 refine x_u 1 [(20, Vp b0_3 0)] ?_
 obtain ⟨x9, hx, h⟩ := bind_some h
 have hpk : MS w7 ([[b0_3]] ++ [M]) := hms.pick [some 0, some 1] _ rfl
 have hsb0 : ∀ x ∈ fl ([[b0_3]] ++ [M]), x ∈ fl [[b0_3], M] := pick_sub [some 0, some 1] _ rfl
 have hsb : ∀ x ∈ fl ([[b0_3]] ++ [(fl [M])]), x ∈ fl [[b0_3], M] := fun x hx => hsb0 x (fl_unfold x hx)
 have hcall := law17_tracks_w b0_3 a1_3 c1_3 x2.1 x6.2 _ w7 (fl [M]) (hpk.fold (P := [[b0_3]])) (hf3_2.sub hsb) hf3_1 hx
 refine x_call 24 #[] #[] [Vp b0_3 0] _ rfl rfl rfl rfl hcall ?_
 rintro v w10 ⟨a0_10, c0_10, rfl, he10, hp10_0, hmn10, hfn10, hf10_1⟩
 clear hcall hx
 refine inl1 ?_
 have hpk2 : MS w7 ([[b0_3]] ++ [M]) := hms.pick [some 0, some 1] _ rfl
 have hsb2 : ∀ x ∈ fl ([[b0_3]] ++ [M]), x ∈ fl [[b0_3], M] := pick_sub [some 0, some 1] _ rfl
 have hst0 := Stp.call (LS := [[b0_3], M]) (res := [blk a0_10]) (par := [[b0_3]]) (R := [M]) he10 (fun b hb => hsb2 b (fl_left' (P := [[b0_3]]) b hb)) hfn10 (NP.init _ _) (fun x hx => hsb2 x (fl_right' (P := [[b0_3]]) x hx))
 have hsn : ∀ x ∈ fl [blk a0_10, [b0_3], M], x ∈ fl ([blk a0_10] ++ ([[b0_3]] ++ [M])) := pick_sub [some 0, some 1, some 2] _ rfl
 have hst := hst0.res hsn
 replace hf7_1 := hf7_1.step hst
 replace hms : MS w10 [blk a0_10, [b0_3], M] := (MS.call (P := [[b0_3]]) (R := [M]) (res := [blk a0_10]) (par := [[b0_3]]) hpk2 he10 hmn10 hfn10 (NP.init _ _)).pick [some 0, some 1, some 2] _ rfl
 have hPf : ∀ b ∈ fl [[b0_3]], w.heap.size ≤ b := FR.mem (ls := [[b0_3]]) (hfr.pick [some 0] _ rfl)
 have hfr2 : FR w.heap.size [blk a0_10, [b0_3]] := (FR.cons (fun b hb => Nat.le_trans hev.size (hfn10.at 0 rfl b hb)) (FR.cons (hfr.at 0 rfl) (FR.nil _)))
 replace hev := hev.then he10 (fun b hb => .inr (hPf b hb))
 replace hfr := hfr2
 clear hfr2
 replace hf10_1 := OwnS.plain (M' := fl [blk a0_10, [b0_3], M]) (plain_int _) hf10_1
 clear hpk hsb hsb0 hpk2 hsb2 hst0 hsn hst
 have hpk := hms.pick [some 1, some 2] [[b0_3], M] rfl
 have hsu := pick_sub (ls := [blk a0_10, [b0_3], M]) [some 1, some 2] [[b0_3], M] rfl
 replace hf7_1 := hf7_1.sub hsu
 replace hf10_1 := hf10_1.ro hsu (pick_out hms 0 rfl [some 1, some 2] [[b0_3], M] rfl rfl)
 replace hms := hpk
 replace hfr := hfr.pick [some 1] [[b0_3]] rfl
 clear hpk hsu
 refine x_u 2 [(4, Vl a0_7 x6.1 c0_7), (5, Vl a0_10 x9.1 c0_10)] (x_ek (c_sp (x_u 2 [(23, Vl a0_7 x6.1 c0_7), (24, Vl a0_10 x9.1 c0_10)] ?_)))
 obtain ⟨x12, hx, h⟩ := bind_some h
 have hcall := planner_Plan_w a0_7 c0_7 x6.1 a0_10 c0_10 x9.1 _ w10 (fl [[b0_3], M]) (MS.fold (P := []) hms) (hf7_1.sub fl1) (hf10_1.sub fl1) hx
 refine x_call 25 #[] #[] [Vl a0_7 x6.1 c0_7, Vl a0_10 x9.1 c0_10] _ rfl rfl rfl rfl hcall ?_
 rintro v w13 ⟨a0_13, c0_13, a2_13, c2_13, a4_13, c4_13, a6_13, c6_13, a8_13, c8_13, rfl, he13, hmn13, hfn13, hf13_1, hf13_2, hf13_3, hf13_4, hf13_5⟩
 clear hcall hx
 refine inl1 ?_
 have hst := Stp.call0 [[b0_3], M] [blk a0_13, blk a2_13, blk a4_13, blk a6_13, blk a8_13] [blk a0_13, blk a2_13, blk a4_13, blk a6_13, blk a8_13, [b0_3], M] he13 hfn13 rfl
 replace hf7_1 := hf7_1.step hst
 replace hf10_1 := hf10_1.step hst
 replace hms := MS.call0 [blk a0_13, blk a2_13, blk a4_13, blk a6_13, blk a8_13] [blk a0_13, blk a2_13, blk a4_13, blk a6_13, blk a8_13, [b0_3], M] hms he13 hmn13 hfn13 rfl
 have hfr2 := FR.call0 [blk a0_13, blk a2_13, blk a4_13, blk a6_13, blk a8_13, [b0_3]] hev.size hfn13 hfr rfl
 replace hev := hev.ext he13
 replace hfr := hfr2
 clear hfr2
 replace hf13_1 := OwnS.plain (M' := fl [blk a0_13, blk a2_13, blk a4_13, blk a6_13, blk a8_13, [b0_3], M]) (plain_prod (plain_int _) (plain_prod (plain_int _) (plain_prod (plain_int _) (plain_int _)))) hf13_1
 replace hf13_2 := OwnS.plain (M' := fl [blk a0_13, blk a2_13, blk a4_13, blk a6_13, blk a8_13, [b0_3], M]) (plain_int _) hf13_2
 replace hf13_3 := OwnS.plain (M' := fl [blk a0_13, blk a2_13, blk a4_13, blk a6_13, blk a8_13, [b0_3], M]) (plain_int _) hf13_3
 replace hf13_4 := OwnS.plain (M' := fl [blk a0_13, blk a2_13, blk a4_13, blk a6_13, blk a8_13, [b0_3], M]) (plain_int _) hf13_4
 replace hf13_5 := OwnS.plain (M' := fl [blk a0_13, blk a2_13, blk a4_13, blk a6_13, blk a8_13, [b0_3], M]) (plain_int _) hf13_5
 clear hst
 have hpk := hms.pick [some 1, some 2, some 3, some 4, some 5, some 6] [blk a2_13, blk a4_13, blk a6_13, blk a8_13, [b0_3], M] rfl
 have hsu := pick_sub (ls := [blk a0_13, blk a2_13, blk a4_13, blk a6_13, blk a8_13, [b0_3], M]) [some 1, some 2, some 3, some 4, some 5, some 6] [blk a2_13, blk a4_13, blk a6_13, blk a8_13, [b0_3], M] rfl
 replace hf7_1 := hf7_1.sub hsu
 replace hf10_1 := hf10_1.sub hsu
 replace hf13_1 := hf13_1.ro hsu (pick_out hms 0 rfl [some 1, some 2, some 3, some 4, some 5, some 6] [blk a2_13, blk a4_13, blk a6_13, blk a8_13, [b0_3], M] rfl rfl)
 replace hf13_2 := hf13_2.sub hsu
 replace hf13_3 := hf13_3.sub hsu
 replace hf13_4 := hf13_4.sub hsu
 replace hf13_5 := hf13_5.sub hsu
 replace hms := hpk
 replace hfr := hfr.pick [some 1, some 2, some 3, some 4, some 5] [blk a2_13, blk a4_13, blk a6_13, blk a8_13, [b0_3]] rfl
 clear hpk hsu
 have hpk := hms.pick [some 1, some 2, some 3, some 4, some 5] [blk a4_13, blk a6_13, blk a8_13, [b0_3], M] rfl
 have hsu := pick_sub (ls := [blk a2_13, blk a4_13, blk a6_13, blk a8_13, [b0_3], M]) [some 1, some 2, some 3, some 4, some 5] [blk a4_13, blk a6_13, blk a8_13, [b0_3], M] rfl
 replace hf7_1 := hf7_1.sub hsu
 replace hf10_1 := hf10_1.sub hsu
 replace hf13_1 := hf13_1.sub hsu
 replace hf13_2 := hf13_2.ro hsu (pick_out hms 0 rfl [some 1, some 2, some 3, some 4, some 5] [blk a4_13, blk a6_13, blk a8_13, [b0_3], M] rfl rfl)
 replace hf13_3 := hf13_3.sub hsu
 replace hf13_4 := hf13_4.sub hsu
 replace hf13_5 := hf13_5.sub hsu
 replace hms := hpk
 replace hfr := hfr.pick [some 1, some 2, some 3, some 4] [blk a4_13, blk a6_13, blk a8_13, [b0_3]] rfl
 clear hpk hsu
 have hpk := hms.pick [some 1, some 2, some 3, some 4] [blk a6_13, blk a8_13, [b0_3], M] rfl
 have hsu := pick_sub (ls := [blk a4_13, blk a6_13, blk a8_13, [b0_3], M]) [some 1, some 2, some 3, some 4] [blk a6_13, blk a8_13, [b0_3], M] rfl
 replace hf7_1 := hf7_1.sub hsu
 replace hf10_1 := hf10_1.sub hsu
 replace hf13_1 := hf13_1.sub hsu
 replace hf13_2 := hf13_2.sub hsu
 replace hf13_3 := hf13_3.ro hsu (pick_out hms 0 rfl [some 1, some 2, some 3, some 4] [blk a6_13, blk a8_13, [b0_3], M] rfl rfl)
 replace hf13_4 := hf13_4.sub hsu
 replace hf13_5 := hf13_5.sub hsu
 replace hms := hpk
 replace hfr := hfr.pick [some 1, some 2, some 3] [blk a6_13, blk a8_13, [b0_3]] rfl
 clear hpk hsu
 have hpk := hms.pick [some 1, some 2, some 3] [blk a8_13, [b0_3], M] rfl
 have hsu := pick_sub (ls := [blk a6_13, blk a8_13, [b0_3], M]) [some 1, some 2, some 3] [blk a8_13, [b0_3], M] rfl
 replace hf7_1 := hf7_1.sub hsu
 replace hf10_1 := hf10_1.sub hsu
 replace hf13_1 := hf13_1.sub hsu
 replace hf13_2 := hf13_2.sub hsu
 replace hf13_3 := hf13_3.sub hsu
 replace hf13_4 := hf13_4.ro hsu (pick_out hms 0 rfl [some 1, some 2, some 3] [blk a8_13, [b0_3], M] rfl rfl)
 replace hf13_5 := hf13_5.sub hsu
 replace hms := hpk
 replace hfr := hfr.pick [some 1, some 2] [blk a8_13, [b0_3]] rfl
 clear hpk hsu
 have hpk := hms.pick [some 1, some 2] [[b0_3], M] rfl
 have hsu := pick_sub (ls := [blk a8_13, [b0_3], M]) [some 1, some 2] [[b0_3], M] rfl
 replace hf7_1 := hf7_1.sub hsu
 replace hf10_1 := hf10_1.sub hsu
 replace hf13_1 := hf13_1.sub hsu
 replace hf13_2 := hf13_2.sub hsu
 replace hf13_3 := hf13_3.sub hsu
 replace hf13_4 := hf13_4.sub hsu
 replace hf13_5 := hf13_5.ro hsu (pick_out hms 0 rfl [some 1, some 2] [[b0_3], M] rfl rfl)
 replace hms := hpk
 replace hfr := hfr.pick [some 1] [[b0_3]] rfl
 clear hpk hsu
 refine x_u 4 [(22, .tuple #[.agg #[Vl a0_13 x12.1.1.1 c0_13, Vi x12.1.1.2, Vi x12.1.2.1.1.1, Vl a2_13 x12.1.2.1.1.2 c2_13, Vl a4_13 x12.1.2.1.2 c4_13, Vl a6_13 x12.1.2.2 c6_13], Vl a8_13 x12.2.1 c8_13, Vi x12.2.2]), (26, .agg #[Vl a0_13 x12.1.1.1 c0_13, Vi x12.1.1.2, Vi x12.1.2.1.1.1, Vl a2_13 x12.1.2.1.1.2 c2_13, Vl a4_13 x12.1.2.1.2 c4_13, Vl a6_13 x12.1.2.2 c6_13]), (27, Vl a8_13 x12.2.1 c8_13), (28, Vi x12.2.2)] (x_alloc (z := .agg #[.slice none 0 0, Vi 0, Vi 0, .slice none 0 0, .slice none 0 0, .slice none 0 0]) rfl rfl (by kernel_rfl) (fun b19 w19 hq19 hb19 he19 hz19 => ?_))
 replace hb19 : w19.heap[b19]? = some (.cells #[.slice none 0 0, Vi 0, Vi 0, .slice none 0 0, .slice none 0 0, .slice none 0 0] 67 (0, 0)) := hb19
 refine inl1 ?_
 have hst := Stp.box (ls := [[b0_3], M]) he19 hq19
 replace hf7_1 := hf7_1.step hst
 replace hf10_1 := hf10_1.step hst
 replace hf13_1 := hf13_1.step hst
 replace hf13_2 := hf13_2.step hst
 replace hf13_3 := hf13_3.step hst
 replace hf13_4 := hf13_4.step hst
 replace hf13_5 := hf13_5.step hst
 replace hms := hms.box he19 hq19 hb19
 replace hfr := hfr.box hev.size hq19
 replace hev := hev.ext he19
 obtain ⟨w21, hr21, hb21, he21⟩ := store_boxagg 0 [Vl a0_13 x12.1.1.1 c0_13, Vi x12.1.1.2, Vi x12.1.2.1.1.1, Vl a2_13 x12.1.2.1.1.2 c2_13, Vl a4_13 x12.1.2.1.2 c4_13, Vl a6_13 x12.1.2.2 c6_13] #[Vl a0_13 x12.1.1.1 c0_13, Vi x12.1.1.2, Vi x12.1.2.1.1.1, Vl a2_13 x12.1.2.1.1.2 c2_13, Vl a4_13 x12.1.2.1.2 c4_13, Vl a6_13 x12.1.2.2 c6_13] tagg67 hb19 rfl rfl rfl
 refine x_store w21 (xv := Vp b19 0) (yv := .agg #[Vl a0_13 x12.1.1.1 c0_13, Vi x12.1.1.2, Vi x12.1.2.1.1.1, Vl a2_13 x12.1.2.1.1.2 c2_13, Vl a4_13 x12.1.2.1.2 c4_13, Vl a6_13 x12.1.2.2 c6_13]) rfl rfl rfl rfl hr21 (inl1 ?_)
 have hst := Stp.ev' (ls := [[b19], [b0_3], M]) he21 (mem_flat 0 rfl)
 replace hf7_1 := hf7_1.step hst
 replace hf10_1 := hf10_1.step hst
 replace hf13_1 := hf13_1.step hst
 replace hf13_2 := hf13_2.step hst
 replace hf13_3 := hf13_3.step hst
 replace hf13_4 := hf13_4.step hst
 replace hf13_5 := hf13_5.step hst
 replace hms := hms.ev he21
 replace hev := hev.then he21 (fun b hb => .inr (hfr.at 0 rfl b hb))
 replace hb19 := hb21
 refine x_u 2 [(7, Vl a8_13 x12.2.1 c8_13), (8, Vi x12.2.2)] (x_ek (c_nm [(4, Vl a0_7 x6.1 c0_7), (5, Vl a0_10 x9.1 c0_10), (6, Vp b19 0), (7, Vl a8_13 x12.2.1 c8_13), (8, Vi x12.2.2)] (fun J => ?_)))
 refine c_seq (c_sp (x_u 1 [(29, Vi x12.2.2)] (x_ek (c_block (c_sp ?_)))))
 refine x_u 2 [(31, .bool (x12.2.2 == 0)), (30, .bool (x12.2.2 == 0))] (x_ek (c_if (x12.2.2 == 0) rfl h (fun h => ?_) (fun h => ?_)))
 · refine c_sp (x_u 1 [(32, Vl a8_13 x12.2.1 c8_13)] (x_len (vs := [Vl a8_13 x12.2.1 c8_13]) (Vi ((x12.2.1).length : Int)) rfl rfl rfl (reads_len tsl22 _ _ _ _ _) (x_u 2 [(34, .bool (((x12.2.1).length : Int) == 0)), (35, .bool (((x12.2.1).length : Int) == 0))] (x_if 35 (((x12.2.1).length : Int) == 0) rfl h (fun h => ?_) (fun h => ?_)))))
   · refine x_load (xv := Vp b19 0) (.agg #[Vl a0_13 x12.1.1.1 c0_13, Vi x12.1.1.2, Vi x12.1.2.1.1.1, Vl a2_13 x12.1.2.1.1.2 c2_13, Vl a4_13 x12.1.2.1.2 c4_13, Vl a6_13 x12.1.2.2 c6_13]) rfl rfl rfl (reads_boxagg 0 [Vl a0_13 x12.1.1.1 c0_13, Vi x12.1.1.2, Vi x12.1.2.1.1.1, Vl a2_13 x12.1.2.1.1.2 c2_13, Vl a4_13 x12.1.2.1.2 c4_13, Vl a6_13 x12.1.2.2 c6_13] tagg67 hb19 nn rfl) (x_u 1 [(37, Vl a0_10 x9.1 c0_10)] ?_)
     obtain ⟨x23, hx, h⟩ := bind_some h
     have hcall := planner_Check_w a0_13 c0_13 x12.1.1.1 x12.1.1.2 x12.1.2.1.1.1 a2_13 c2_13 x12.1.2.1.1.2 a4_13 c4_13 x12.1.2.1.2 a6_13 c6_13 x12.1.2.2 a0_10 c0_10 x9.1 _ w21 (fl [[b19], [b0_3], M]) (MS.fold (P := []) hms) (hf13_1.sub fl1) (hf13_2.sub fl1) (hf13_3.sub fl1) (hf13_4.sub fl1) (hf10_1.sub fl1) hx
     refine x_call 31 #[] #[] [.agg #[Vl a0_13 x12.1.1.1 c0_13, Vi x12.1.1.2, Vi x12.1.2.1.1.1, Vl a2_13 x12.1.2.1.1.2 c2_13, Vl a4_13 x12.1.2.1.2 c4_13, Vl a6_13 x12.1.2.2 c6_13], Vl a0_10 x9.1 c0_10] _ rfl rfl rfl rfl hcall ?_
     rintro v w24 ⟨rfl, he24⟩
     clear hcall hx
     refine inl1 ?_
     have hst := Stp.ext (ls := [[b19], [b0_3], M]) he24
     replace hf7_1 := hf7_1.step hst
     replace hf13_1 := hf13_1.step hst
     replace hb19 := he24.box hb19 nn
     replace hms := hms.ev he24
     replace hev := hev.ext he24
     refine x_u 3 [(39, .bool (x23 == 0)), (40, .bool (x23 == 0)), (41, .bool (x23 == 0))] (x_if 41 (x23 == 0) rfl h (fun h => ?_) (fun h => ?_))
     · refine x_fieldAddr (xv := Vp b19 0) (Vp b19 0) rfl rfl rfl (reads_field tfld67_0 _ _) (x_fieldAddr (xv := Vp b19 0) (Vp b19 0) rfl rfl rfl (reads_field tfld50_0 _ _) (x_load (xv := Vp b19 0) (Vl a0_13 x12.1.1.1 c0_13) rfl rfl rfl (reads_box tcell36 hb19 nn 0 _ rfl) (x_u 1 [(45, Vl a0_7 x6.1 c0_7)] ?_)))
       obtain ⟨x25, hx, h⟩ := bind_some h
       have hcall := gen_Items_w a0_13 c0_13 x12.1.1.1 a0_7 c0_7 x6.1 _ w24 (fl [[b19], [b0_3], M]) (MS.fold (P := []) hms) (hf13_1.sub fl1) (hf7_1.sub fl1) hx
       refine x_call 17 #[] #[] [Vl a0_13 x12.1.1.1 c0_13, Vl a0_7 x6.1 c0_7] _ rfl rfl rfl rfl hcall ?_
       rintro v w26 ⟨rfl, he26⟩
       clear hcall hx
       refine inl1 ?_
       replace hev := hev.ext he26
       refine x_u 2 [(47, .bool x25), (48, .bool x25)] (x_if 48 x25 rfl h (fun h => ?_) (fun h => ?_))
       · obtain ⟨x27, hx, h⟩ := bind_some h
         have hcall := law17_sane_w _ w26 hx
         refine x_call 18 #[] #[] [] _ rfl rfl rfl rfl hcall ?_
         rintro v w28 ⟨rfl, he28⟩
         clear hcall hx
         refine inl1 ?_
         replace hev := hev.ext he28
         refine x_u 2 [(50, .bool x27), (2, .bool x27)] (x_ek (c_nm [(2, .bool x27)] (fun J => ?_)))
         refine c_ret (k_block_ret (k_then_ret (r_ret (r_vals [.bool x27] ⟨rfl, trivial⟩ ?_))))
         obtain rfl := some_inj h
         exact ⟨rfl, hev⟩
       refine x_u 3 [(49, undef), (50, .bool false), (2, .bool false)] (x_ek (c_nm [(2, .bool false)] (fun J => ?_)))
       refine c_ret (k_block_ret (k_then_ret (r_ret (r_vals [.bool false] ⟨rfl, trivial⟩ ?_))))
       obtain rfl := some_inj h
       exact ⟨rfl, hev⟩
     refine x_u 10 [(42, undef), (43, undef), (44, undef), (45, undef), (46, undef), (47, .bool false), (48, .bool false), (49, undef), (50, .bool false), (2, .bool false)] (x_ek (c_nm [(2, .bool false)] (fun J => ?_)))
     refine c_ret (k_block_ret (k_then_ret (r_ret (r_vals [.bool false] ⟨rfl, trivial⟩ ?_))))
     obtain rfl := some_inj h
     exact ⟨rfl, hev⟩
   refine x_u 16 [(36, undef), (37, undef), (38, undef), (39, undef), (40, .bool false), (41, .bool false), (42, undef), (43, undef), (44, undef), (45, undef), (46, undef), (47, .bool false), (48, .bool false), (49, undef), (50, .bool false), (2, .bool false)] (x_ek (c_nm [(2, .bool false)] (fun J => ?_)))
   refine c_ret (k_block_ret (k_then_ret (r_ret (r_vals [.bool false] ⟨rfl, trivial⟩ ?_))))
   obtain rfl := some_inj h
   exact ⟨rfl, hev⟩
 refine c_sp (x_u 2 [(52, .bool (x12.2.2 == 15)), (51, .bool (x12.2.2 == 15))] (x_ek (c_if (x12.2.2 == 15) rfl h (fun h => ?_) (fun h => ?_))))
 · refine c_sp ?_
   obtain ⟨x29, hx, h⟩ := bind_some h
   have hcall := law17_sane_w _ w21 hx
   refine x_call 18 #[] #[] [] _ rfl rfl rfl rfl hcall ?_
   rintro v w30 ⟨rfl, he30⟩
   clear hcall hx
   refine inl1 ?_
   replace hev := hev.ext he30
   refine x_u 1 [(2, .bool x29)] (x_ek (c_ret (k_block_ret (k_then_ret (r_ret (r_vals [.bool x29] ⟨rfl, trivial⟩ ?_))))))
   obtain rfl := some_inj h
   exact ⟨rfl, hev⟩
 refine c_skip (k_block (k_then (c_sp (x_u 1 [(55, Vl a0_7 x6.1 c0_7)] ?_))))
 obtain ⟨x31, hx, h⟩ := bind_some h
 have hcall := planner_Schemes_w a0_7 c0_7 x6.1 _ w21 (fl [[b19], [b0_3], M]) (MS.fold (P := []) hms) (hf7_1.sub fl1) hx
 refine x_call 20 #[] #[] [Vl a0_7 x6.1 c0_7] _ rfl rfl rfl rfl hcall ?_
 rintro v w32 ⟨a0_32, c0_32, rfl, he32, hmn32, hfn32, hf32_1⟩
 clear hcall hx
 refine inl1 ?_
 have hst := Stp.call0 [[b19], [b0_3], M] [blk a0_32] [blk a0_32, [b19], [b0_3], M] he32 hfn32 rfl
 replace hf7_1 := hf7_1.step hst
 replace hf10_1 := hf10_1.step hst
 replace hf13_5 := hf13_5.step hst
 replace hms := MS.call0 [blk a0_32] [blk a0_32, [b19], [b0_3], M] hms he32 hmn32 hfn32 rfl
 have hfr2 := FR.call0 [blk a0_32, [b19], [b0_3]] hev.size hfn32 hfr rfl
 replace hev := hev.ext he32
 replace hfr := hfr2
 clear hfr2
 replace hf32_1 := OwnS.plain (M' := fl [blk a0_32, [b19], [b0_3], M]) (plain_prod (plain_int _) (plain_prod (plain_int _) (plain_prod (plain_int _) (plain_int _)))) hf32_1
 clear hst
 have hpk := hms.pick [some 1, some 2, some 3] [[b19], [b0_3], M] rfl
 have hsu := pick_sub (ls := [blk a0_32, [b19], [b0_3], M]) [some 1, some 2, some 3] [[b19], [b0_3], M] rfl
 replace hf7_1 := hf7_1.sub hsu
 replace hf10_1 := hf10_1.sub hsu
 replace hf13_5 := hf13_5.sub hsu
 replace hf32_1 := hf32_1.ro hsu (pick_out hms 0 rfl [some 1, some 2, some 3] [[b19], [b0_3], M] rfl rfl)
 replace hms := hpk
 replace hfr := hfr.pick [some 1, some 2] [[b19], [b0_3]] rfl
 clear hpk hsu
 refine x_u 5 [(54, .tuple #[Vl a0_32 x31.1 c0_32, Vi x31.2]), (57, Vl a0_32 x31.1 c0_32), (58, Vi x31.2), (9, Vl a0_32 x31.1 c0_32), (10, Vi x31.2)] (x_ek (c_nm [(4, Vl a0_7 x6.1 c0_7), (5, Vl a0_10 x9.1 c0_10), (7, Vl a8_13 x12.2.1 c8_13), (8, Vi x12.2.2), (9, Vl a0_32 x31.1 c0_32), (10, Vi x31.2)] (fun J => ?_)))
 refine c_seq (c_sp (x_u 3 [(59, Vi x12.2.2), (60, .bool (x12.2.2 != 14)), (61, .bool (x12.2.2 != 14))] (x_if 61 (x12.2.2 != 14) rfl h (fun h => ?_) (fun h => ?_))))
 · refine x_u 8 [(62, undef), (63, undef), (64, .bool true), (65, .bool true), (66, undef), (67, undef), (68, undef), (69, .bool true)] (x_ek (c_true rfl (c_sp (x_u 1 [(2, .bool false)] (x_ek ?_)))))
   refine c_ret (k_then_ret (r_ret (r_vals [.bool false] ⟨rfl, trivial⟩ ?_)))
   obtain rfl := some_inj h
   exact ⟨rfl, hev⟩
 refine x_u 4 [(62, Vi x31.2), (63, .bool (x31.2 != 0)), (64, .bool (x31.2 != 0)), (65, .bool (x31.2 != 0))] (x_if 65 (x31.2 != 0) rfl h (fun h => ?_) (fun h => ?_))
 · refine x_u 4 [(66, undef), (67, undef), (68, undef), (69, .bool true)] (x_ek (c_true rfl (c_sp (x_u 1 [(2, .bool false)] (x_ek ?_)))))
   refine c_nm [(2, .bool false)] (fun J => ?_)
   refine c_ret (k_then_ret (r_ret (r_vals [.bool false] ⟨rfl, trivial⟩ ?_)))
   obtain rfl := some_inj h
   exact ⟨rfl, hev⟩
 refine x_u 1 [(66, Vl a0_32 x31.1 c0_32)] (x_len (vs := [Vl a0_32 x31.1 c0_32]) (Vi ((x31.1).length : Int)) rfl rfl rfl (reads_len tsl44 _ _ _ _ _) (x_u 2 [(68, .bool (((x31.1).length : Int) == 0)), (69, .bool (((x31.1).length : Int) == 0))] (x_ek (c_if (((x31.1).length : Int) == 0) rfl h (fun h => ?_) (fun h => ?_)))))
 · refine c_sp (x_u 1 [(2, .bool false)] (x_ek (c_nm [(2, .bool false)] (fun J => ?_))))
   refine c_ret (k_then_ret (r_ret (r_vals [.bool false] ⟨rfl, trivial⟩ ?_)))
   obtain rfl := some_inj h
   exact ⟨rfl, hev⟩
 refine c_skip (k_then (c_nm [(4, Vl a0_7 x6.1 c0_7), (5, Vl a0_10 x9.1 c0_10), (7, Vl a8_13 x12.2.1 c8_13), (9, Vl a0_32 x31.1 c0_32)] (fun J => ?_)))
 refine c_sp (x_u 2 [(70, Vl a0_7 x6.1 c0_7), (71, Vl a0_32 x31.1 c0_32)] ?_)
 obtain ⟨x35, hx35, h⟩ := bind_some h
 obtain ⟨ad35, cs35, hr35, hc35, hR⟩ := reads_index (Mo := []) tsl44 hf32_1 hx35
 obtain ⟨_, _, rfl, rfl, ⟨_, _, rfl, rfl, ⟨_, _, rfl, rfl, rfl⟩⟩⟩ := hR
 refine x_indexAddr (xv := Vl a0_32 x31.1 c0_32) (yv := Vi 0) (.pointer (some ad35)) rfl rfl rfl rfl hr35 (x_fieldAddr (xv := .pointer (some ad35)) (.pointer (some (Addr.add ad35 0))) rfl rfl rfl (reads_field tfld48_0 _ _) (x_load (xv := .pointer (some (Addr.add ad35 0))) (Vi x35.1) rfl rfl rfl (reads_cell tcell3 hc35 (fun _ h => by cases h) 0 _ rfl) ?_))
 refine x_build (vs := [(0, Vl a0_7 x6.1 c0_7), (1, Vi x35.1)]) (.agg #[Vl a0_7 x6.1 c0_7, Vi x35.1]) rfl rfl rfl (fun _ _ => by kernel_rfl) ?_
 refine x_alloc (z := .agg #[.slice none 0 0, Vi 0]) rfl rfl (by kernel_rfl) (fun b37 w37 hq37 hb37 he37 hz37 => ?_)
 replace hb37 : w37.heap[b37]? = some (.cells #[.slice none 0 0, Vi 0] 50 (0, 0)) := hb37
 refine inl1 ?_
 have hst := Stp.box (ls := [[b19], [b0_3], M]) he37 hq37
 replace hf7_1 := hf7_1.step hst
 replace hf10_1 := hf10_1.step hst
 replace hf13_5 := hf13_5.step hst
 replace hms := hms.box he37 hq37 hb37
 replace hfr := hfr.box hev.size hq37
 replace hev := hev.ext he37
 obtain ⟨w39, hr39, hb39, he39⟩ := store_boxagg 0 [Vl a0_7 x6.1 c0_7, Vi x35.1] #[Vl a0_7 x6.1 c0_7, Vi x35.1] tagg50 hb37 rfl rfl rfl
 refine x_store w39 (xv := Vp b37 0) (yv := .agg #[Vl a0_7 x6.1 c0_7, Vi x35.1]) rfl rfl rfl rfl hr39 (inl1 ?_)
 have hst := Stp.ev' (ls := [[b37], [b19], [b0_3], M]) he39 (mem_flat 0 rfl)
 replace hf7_1 := hf7_1.step hst
 replace hf10_1 := hf10_1.step hst
 replace hf13_5 := hf13_5.step hst
 replace hms := hms.ev he39
 replace hev := hev.then he39 (fun b hb => .inr (hfr.at 0 rfl b hb))
 replace hb37 := hb39
 refine x_ek (c_sp (x_load (xv := Vp b37 0) (.agg #[Vl a0_7 x6.1 c0_7, Vi x35.1]) rfl rfl rfl (reads_boxagg 0 [Vl a0_7 x6.1 c0_7, Vi x35.1] tagg50 hb37 nn rfl) ?_))
 obtain ⟨x40, hx, h⟩ := bind_some h
 have hcall := certificate_Make_w a0_7 c0_7 x6.1 x35.1 _ w39 (fl [[b37], [b19], [b0_3], M]) (MS.fold (P := []) hms) (hf7_1.sub fl1) hx
 refine x_call 21 #[] #[] [.agg #[Vl a0_7 x6.1 c0_7, Vi x35.1]] _ rfl rfl rfl rfl hcall ?_
 rintro v w41 ⟨a0_41, c0_41, a2_41, c2_41, rfl, he41, hmn41, hfn41, hf41_1, hf41_2⟩
 clear hcall hx
 refine inl1 ?_
 have hst := Stp.call0 [[b37], [b19], [b0_3], M] [blk a0_41, blk a2_41] [blk a0_41, blk a2_41, [b37], [b19], [b0_3], M] he41 hfn41 rfl
 replace hf7_1 := hf7_1.step hst
 replace hf10_1 := hf10_1.step hst
 replace hf13_5 := hf13_5.step hst
 replace hb37 := he41.box hb37 nn
 replace hms := MS.call0 [blk a0_41, blk a2_41] [blk a0_41, blk a2_41, [b37], [b19], [b0_3], M] hms he41 hmn41 hfn41 rfl
 have hfr2 := FR.call0 [blk a0_41, blk a2_41, [b37], [b19], [b0_3]] hev.size hfn41 hfr rfl
 replace hev := hev.ext he41
 replace hfr := hfr2
 clear hfr2
 replace hf41_1 := OwnS.plain (M' := fl [blk a0_41, blk a2_41, [b37], [b19], [b0_3], M]) (plain_int _) hf41_1
 clear hst
 have hpk := hms.pick [some 1, some 2, some 3, some 4, some 5] [blk a2_41, [b37], [b19], [b0_3], M] rfl
 have hsu := pick_sub (ls := [blk a0_41, blk a2_41, [b37], [b19], [b0_3], M]) [some 1, some 2, some 3, some 4, some 5] [blk a2_41, [b37], [b19], [b0_3], M] rfl
 replace hf7_1 := hf7_1.sub hsu
 replace hf10_1 := hf10_1.sub hsu
 replace hf13_5 := hf13_5.sub hsu
 replace hf41_1 := hf41_1.ro hsu (pick_out hms 0 rfl [some 1, some 2, some 3, some 4, some 5] [blk a2_41, [b37], [b19], [b0_3], M] rfl rfl)
 replace hms := hpk
 replace hfr := hfr.pick [some 1, some 2, some 3, some 4] [blk a2_41, [b37], [b19], [b0_3]] rfl
 clear hpk hsu
 have hpk := hms.pick [some 1, some 2, some 3, some 4] [[b37], [b19], [b0_3], M] rfl
 have hsu := pick_sub (ls := [blk a2_41, [b37], [b19], [b0_3], M]) [some 1, some 2, some 3, some 4] [[b37], [b19], [b0_3], M] rfl
 replace hf7_1 := hf7_1.sub hsu
 replace hf10_1 := hf10_1.sub hsu
 replace hf13_5 := hf13_5.sub hsu
 replace hf41_1 := hf41_1.sub hsu
 replace hms := hpk
 replace hfr := hfr.pick [some 1, some 2, some 3] [[b37], [b19], [b0_3]] rfl
 clear hpk hsu
 refine x_u 3 [(76, .tuple #[.agg #[Vi x40.1.1.1, Vl a0_41 x40.1.1.2 c0_41, Vl a2_41 x40.1.2 c2_41], Vi x40.2]), (79, .agg #[Vi x40.1.1.1, Vl a0_41 x40.1.1.2 c0_41, Vl a2_41 x40.1.2 c2_41]), (80, Vi x40.2)] (x_alloc (z := .agg #[Vi 0, .slice none 0 0, .slice none 0 0]) rfl rfl (by kernel_rfl) (fun b44 w44 hq44 hb44 he44 hz44 => ?_))
 replace hb44 : w44.heap[b44]? = some (.cells #[Vi 0, .slice none 0 0, .slice none 0 0] 54 (0, 0)) := hb44
 refine inl1 ?_
 have hst := Stp.box (ls := [[b37], [b19], [b0_3], M]) he44 hq44
 replace hf7_1 := hf7_1.step hst
 replace hf10_1 := hf10_1.step hst
 replace hf13_5 := hf13_5.step hst
 replace hb37 := he44.box hb37 nn
 replace hf41_1 := hf41_1.step hst
 replace hms := hms.box he44 hq44 hb44
 replace hfr := hfr.box hev.size hq44
 replace hev := hev.ext he44
 obtain ⟨w46, hr46, hb46, he46⟩ := store_boxagg 0 [Vi x40.1.1.1, Vl a0_41 x40.1.1.2 c0_41, Vl a2_41 x40.1.2 c2_41] #[Vi x40.1.1.1, Vl a0_41 x40.1.1.2 c0_41, Vl a2_41 x40.1.2 c2_41] tagg54 hb44 rfl rfl rfl
 refine x_store w46 (xv := Vp b44 0) (yv := .agg #[Vi x40.1.1.1, Vl a0_41 x40.1.1.2 c0_41, Vl a2_41 x40.1.2 c2_41]) rfl rfl rfl rfl hr46 (inl1 ?_)
 have hst := Stp.ev' (ls := [[b44], [b37], [b19], [b0_3], M]) he46 (mem_flat 0 rfl)
 replace hf7_1 := hf7_1.step hst
 replace hf10_1 := hf10_1.step hst
 replace hf13_5 := hf13_5.step hst
 replace hb37 := he46.box hb37 (hms.apart 1 0 rfl rfl rfl _ mem1)
 replace hf41_1 := hf41_1.step hst
 replace hms := hms.ev he46
 replace hev := hev.then he46 (fun b hb => .inr (hfr.at 0 rfl b hb))
 replace hb44 := hb46
 refine x_u 1 [(13, Vi x40.2)] (x_ek (c_nm [(5, Vl a0_10 x9.1 c0_10), (7, Vl a8_13 x12.2.1 c8_13), (11, Vp b37 0), (12, Vp b44 0), (13, Vi x40.2)] (fun J => ?_)))
 refine c_sp (x_load (xv := Vp b37 0) (.agg #[Vl a0_7 x6.1 c0_7, Vi x35.1]) rfl rfl rfl (reads_boxagg 0 [Vl a0_7 x6.1 c0_7, Vi x35.1] tagg50 hb37 nn rfl) (x_fieldAddr (xv := Vp b44 0) (Vp b44 0) rfl rfl rfl (reads_field tfld54_0 _ _) (x_load (xv := Vp b44 0) (.agg #[Vi x40.1.1.1, Vl a0_41 x40.1.1.2 c0_41]) rfl rfl rfl (reads_boxagg 0 [Vi x40.1.1.1, Vl a0_41 x40.1.1.2 c0_41] tagg52 hb44 nn rfl) ?_)))
 obtain ⟨x47, hx, h⟩ := bind_some h
 have hcall := rollin_Loads_w a0_7 c0_7 x6.1 x35.1 x40.1.1.1 a0_41 c0_41 x40.1.1.2 _ w46 (fl [[b44], [b37], [b19], [b0_3], M]) (MS.fold (P := []) hms) (hf7_1.sub fl1) (hf41_1.sub fl1) hx
 refine x_call 39 #[] #[] [.agg #[Vl a0_7 x6.1 c0_7, Vi x35.1], .agg #[Vi x40.1.1.1, Vl a0_41 x40.1.1.2 c0_41]] _ rfl rfl rfl rfl hcall ?_
 rintro v w48 ⟨a0_48, c0_48, rfl, he48, hmn48, hfn48, hf48_1⟩
 clear hcall hx
 refine inl1 ?_
 have hst := Stp.call0 [[b44], [b37], [b19], [b0_3], M] [blk a0_48] [blk a0_48, [b44], [b37], [b19], [b0_3], M] he48 hfn48 rfl
 replace hf10_1 := hf10_1.step hst
 replace hf13_5 := hf13_5.step hst
 replace hms := MS.call0 [blk a0_48] [blk a0_48, [b44], [b37], [b19], [b0_3], M] hms he48 hmn48 hfn48 rfl
 replace hev := hev.ext he48
 replace hf48_1 := OwnS.plain (M' := fl [blk a0_48, [b44], [b37], [b19], [b0_3], M]) (plain_int _) hf48_1
 clear hst
 have hpk := hms.pick [some 1, some 2, some 3, some 4, some 5] [[b44], [b37], [b19], [b0_3], M] rfl
 have hsu := pick_sub (ls := [blk a0_48, [b44], [b37], [b19], [b0_3], M]) [some 1, some 2, some 3, some 4, some 5] [[b44], [b37], [b19], [b0_3], M] rfl
 replace hf10_1 := hf10_1.sub hsu
 replace hf13_5 := hf13_5.sub hsu
 replace hf48_1 := hf48_1.ro hsu (pick_out hms 0 rfl [some 1, some 2, some 3, some 4, some 5] [[b44], [b37], [b19], [b0_3], M] rfl rfl)
 replace hms := hpk
 clear hpk hsu
 refine x_u 5 [(81, .tuple #[Vl a0_48 x47.1 c0_48, Vi x47.2]), (86, Vl a0_48 x47.1 c0_48), (87, Vi x47.2), (14, Vl a0_48 x47.1 c0_48), (15, Vi x47.2)] (x_ek (c_sp (x_u 3 [(88, Vi x40.2), (89, .bool (x40.2 == 0)), (90, .bool (x40.2 == 0))] (x_if 90 (x40.2 == 0) rfl h (fun h => ?_) (fun h => ?_)))))
 · refine x_u 4 [(91, Vi x47.2), (92, .bool (x47.2 == 0)), (93, .bool (x47.2 == 0)), (94, .bool (x47.2 == 0))] (x_if 94 (x47.2 == 0) rfl h (fun h => ?_) (fun h => ?_))
   · refine x_u 3 [(95, Vl a0_48 x47.1 c0_48), (96, Vl a0_10 x9.1 c0_10), (97, Vl a8_13 x12.2.1 c8_13)] ?_
     obtain ⟨x50, hx, h⟩ := bind_some h
     have hcall := assign_Refuses_w a0_48 c0_48 x47.1 a0_10 c0_10 x9.1 a8_13 c8_13 x12.2.1 _ w48 (fl [[b44], [b37], [b19], [b0_3], M]) (MS.fold (P := []) hms) (hf48_1.sub fl1) (hf10_1.sub fl1) (hf13_5.sub fl1) hx
     refine x_call 40 #[] #[] [Vl a0_48 x47.1 c0_48, Vl a0_10 x9.1 c0_10, Vl a8_13 x12.2.1 c8_13] _ rfl rfl rfl rfl hcall ?_
     rintro v w51 ⟨rfl, he51⟩
     clear hcall hx
     refine inl1 ?_
     replace hev := hev.ext he51
     refine x_u 2 [(99, .bool x50), (100, .bool x50)] (x_if 100 x50 rfl h (fun h => ?_) (fun h => ?_))
     · obtain ⟨x52, hx, h⟩ := bind_some h
       have hcall := law17_sane_w _ w51 hx
       refine x_call 18 #[] #[] [] _ rfl rfl rfl rfl hcall ?_
       rintro v w53 ⟨rfl, he53⟩
       clear hcall hx
       refine inl1 ?_
       replace hev := hev.ext he53
       refine x_u 2 [(102, .bool x52), (2, .bool x52)] (x_ek (c_nm [(2, .bool x52)] (fun J => ?_)))
       refine c_ret (r_ret (r_vals [.bool x52] ⟨rfl, trivial⟩ ?_))
       obtain rfl := some_inj h
       exact ⟨rfl, hev⟩
     refine x_u 3 [(101, undef), (102, .bool false), (2, .bool false)] (x_ek (c_nm [(2, .bool false)] (fun J => ?_)))
     refine c_ret (r_ret (r_vals [.bool false] ⟨rfl, trivial⟩ ?_))
     obtain rfl := some_inj h
     exact ⟨rfl, hev⟩
   refine x_u 9 [(95, undef), (96, undef), (97, undef), (98, undef), (99, .bool false), (100, .bool false), (101, undef), (102, .bool false), (2, .bool false)] (x_ek (c_nm [(2, .bool false)] (fun J => ?_)))
   refine c_ret (r_ret (r_vals [.bool false] ⟨rfl, trivial⟩ ?_))
   obtain rfl := some_inj h
   exact ⟨rfl, hev⟩
 refine x_u 13 [(91, undef), (92, undef), (93, .bool false), (94, .bool false), (95, undef), (96, undef), (97, undef), (98, undef), (99, .bool false), (100, .bool false), (101, undef), (102, .bool false), (2, .bool false)] (x_ek (c_nm [(2, .bool false)] (fun J => ?_)))
 refine c_ret (r_ret (r_vals [.bool false] ⟨rfl, trivial⟩ ?_))
 obtain rfl := some_inj h
 exact ⟨rfl, hev⟩
end Go.Proofs.YtlejnkhaphlooaaGreat
