
/- Walks, printed by program: each function returns what the partial function of the same name returns. Conditions: those of each theorem. -/
import Derived.Test.YtlejnkhaphlooaaGreatGT
import Derived.Test.YtlejnkhaphlooaaGreatGgen
import Derived.Test.YtlejnkhaphlooaaGreatGjob
import Derived.Test.YtlejnkhaphlooaaGreatGlaw17sane
import Derived.Test.YtlejnkhaphlooaaGreatGlaw17tracks
import Derived.Test.YtlejnkhaphlooaaGreatGplanner
import Derived.Test.YtlejnkhaphlooaaGreatGrollin
set_option linter.unusedVariables false
set_option linter.unusedSimpArgs false
set_option maxRecDepth 4000
namespace Go.Proofs.YtlejnkhaphlooaaGreat
open Go Go.V Go.Proofs
def law17_PlannerDelivers_L54 (x6 : (List (Int × Int × Int × Int)) × Int) (x49 : List Int) (s : Int × Int) : Option (Step (Int × Int) (Unit ⊕ Int)) :=
match s with
| (n_s19_l54, t121__s121_l54) =>
(if (decide (t121__s121_l54 < ((x49).length : Int))) = true then
((idx x49 t121__s121_l54).bind fun x56 =>
(if (decide (x56 < 0)) = true then
some (.done (.inl ()))
else
(if (decide (x56 ≥ ((x6.1).length : Int))) = true then
some (.done (.inl ()))
else
((idx x6.1 x56).bind fun x58 =>
some (.next (IntKind.i64.wrap (n_s19_l54 + x58.2.2.2), IntKind.i64.wrap (t121__s121_l54 + 1)))))))
else
some (.done (.inr n_s19_l54)))

def law17_PlannerDelivers_L47 (x6 : (List (Int × Int × Int × Int)) × Int) (x9 : (List Int) × Int) (x12 : (((List (Int × Int × Int × Int)) × Int) × ((Int × (List Int)) × (List Int)) × (List Int)) × (List Int) × Int) (x38 : (List (List Int)) × (List (List Int)) × Int) (s : Int) : Option (Step Int (Unit ⊕ Unit)) :=
match s with
| t114__s114_l47 =>
(if (decide (t114__s114_l47 < ((((([] : List (List Int)) ++ x38.1) ++ x38.2.1)).length : Int))) = true then
((idx ((([] : List (List Int)) ++ x38.1) ++ x38.2.1) t114__s114_l47).bind fun x49 =>
((loop (law17_PlannerDelivers_L54 x6 x49) (0, 0)).bind fun d => match d with
| (.inl _) => some (.done (.inl ()))
| (.inr n_s19_x5401) => (if (decide (t114__s114_l47 ≥ ((x12.1.2.2).length : Int))) = true then
some (.done (.inl ()))
else
(if (decide (n_s19_x5401 > 0)) = true then
((idx x12.1.2.2 t114__s114_l47).bind fun x60 =>
(if (decide (x60 < 0)) = true then
some (.done (.inl ()))
else
((idx x12.1.2.2 t114__s114_l47).bind fun x62 =>
(if (decide (x62 ≥ ((x9.1).length : Int))) = true then
some (.done (.inl ()))
else
((idx x12.1.2.2 t114__s114_l47).bind fun x64 =>
((idx x9.1 x64).bind fun x66 =>
(if (decide (n_s19_x5401 > x66)) = true then
some (.done (.inl ()))
else
some (.next (IntKind.i64.wrap (t114__s114_l47 + 1))))))))))
else
some (.next (IntKind.i64.wrap (t114__s114_l47 + 1)))))))
else
some (.done (.inr ())))

def law17_PlannerDelivers_L36 (x6 : (List (Int × Int × Int × Int)) × Int) (x9 : (List Int) × Int) (x12 : (((List (Int × Int × Int × Int)) × Int) × ((Int × (List Int)) × (List Int)) × (List Int)) × (List Int) × Int) (s : Int) : Option (Step Int (Unit ⊕ Unit)) :=
match s with
| time_s13_l36 =>
(if (decide (time_s13_l36 ≤ x12.1.2.1.1.1)) = true then
((rollin_Contents x12.1.1.1 x12.1.1.2 x12.1.2.1.1.1 x12.1.2.1.1.2 time_s13_l36).bind fun x38 =>
(if (x38.2.2 != 0) = true then
some (.done (.inl ()))
else
(if ([] : List (List Int)).length + x38.1.length ≤ 4294967296 then
(if (([] : List (List Int)) ++ x38.1).length + x38.2.1.length ≤ 4294967296 then
((loop (law17_PlannerDelivers_L47 x6 x9 x12 x38) 0).bind fun d => match d with
| (.inl _) => some (.done (.inl ()))
| (.inr _) => some (.next (IntKind.i64.wrap (time_s13_l36 + 1))))
else none)
else none)))
else
some (.done (.inr ())))

def law17_PlannerDelivers (p0 : List Int) : Option Bool :=
((gen_New p0).bind fun x2 =>
((gen_Maker_Items x2.1 x2.2 12).bind fun x6 =>
((law17_tracks x2.1 x6.2).bind fun x9 =>
((planner_Plan x6.1 x9.1).bind fun x12 =>
(if (x12.2.2 != 0) = true then
(if (x12.2.2 == 15) = true then
((law17_sane).bind fun x23 =>
some x23)
else
(if (x12.2.2 == 14) = true then
((law17_sane).bind fun x25 =>
some x25)
else
some false))
else
((rollin_Run x12.1.1.1 x12.1.1.2 x12.1.2.1.1.1 x12.1.2.1.1.2).bind fun x27 =>
((job_Sorted x12.1.1.1 x12.1.1.2 x27.1.1).bind fun x33 =>
(if (x27.2 != 0) = true then
some false
else
(if (x33.2 != 0) = true then
some false
else
(if (!x33.1) = true then
some false
else
(if (((x12.1.2.2).length : Int) != (IntKind.i64.wrap (x12.1.2.1.1.1 + ((x27.1.1).length : Int)))) = true then
some false
else
((loop (law17_PlannerDelivers_L36 x6 x9 x12) 0).bind fun d => match d with
| (.inl _) => some false
| (.inr _) => ((law17_sane).bind fun x68 =>
some x68)))))))))))))

theorem law17_PlannerDelivers_w (a_p0 : Option Addr) (c_p0 : Nat) (p0 : List Int) (r : Bool) (w : World) (M : List Nat) (hms : MS w [M]) (hs_p0 : SlR (eInt .i64) w (fl [M]) a_p0 c_p0 p0) (h : law17_PlannerDelivers p0 = some r) : CallVC Tryz.prog 6 [Vl a_p0 p0 c_p0] w fun v w' => v = .bool r ∧ Ev [] w w' := by
 refine calls_vc hmx Tryz.func6 (by kernel_rfl) rfl (rs := [.tmp 2]) rfl (by kernel_rfl) (args := [Vl a_p0 p0 c_p0]) rfl ?_
 have hev : Ev [] w w := Ev.refl _ _
 refine c_sp (x_u 1 [(2, .bool false)] (x_ek (c_sp (x_u 1 [(22, Vl a_p0 p0 c_p0)] ?_))))
 obtain ⟨x2, hx, h⟩ := bind_some h
 have hcall := gen_New_w a_p0 c_p0 p0 _ w (fl [M]) (MS.fold (P := []) hms) (hs_p0.sub fl1) hx
 refine x_call 10 #[] #[] [Vl a_p0 p0 c_p0] _ rfl rfl rfl rfl hcall ?_
 rintro v w3 ⟨b0_3, a1_3, c1_3, rfl, he3, hmn3, hfn3, hf3_1, hf3_2⟩
 clear hcall hx
 refine inl1 ?_
 have hpk2 : MS w ([] ++ [M]) := hms.pick [some 0] _ rfl
 have hsn : ∀ x ∈ fl [[b0_3], M], x ∈ fl ([[b0_3]] ++ ([] ++ [M])) := pick_sub [some 0, some 1] _ rfl
 replace hms : MS w3 [[b0_3], M] := (MS.call (P := []) (R := [M]) (res := [[b0_3]]) (par := []) hpk2 he3 hmn3 hfn3 (NP.init _ _)).pick [some 0, some 1] _ rfl
 have hfr2 : FR w.heap.size [[b0_3]] := (FR.cons (fun b hb => Nat.le_trans hev.size (hfn3.at 0 rfl b hb)) (FR.nil _))
 replace hev := hev.ext he3
 replace hfr := hfr2
 clear hfr2
 have hsp : ∀ x ∈ fl [[b0_3], M], x ∈ fl ([[b0_3]] ++ ([] ++ [(fl [M])])) := fun x hx => fl_tot (res := [[b0_3]]) (par := []) (R := [M]) x (hsn x hx)
 replace hf3_2 := hf3_2.sub hsp
 clear hpk2 hsn
 refine x_u 1 [(3, Vp b0_3 0)] (x_ek (c_sp (x_u 1 [(24, Vp b0_3 0)] ?_)))
 obtain ⟨x6, hx, h⟩ := bind_some h
 have hpk : MS w3 ([[b0_3]] ++ [M]) := hms.pick [some 0, some 1] _ rfl
 have hsb0 : ∀ x ∈ fl ([[b0_3]] ++ [M]), x ∈ fl [[b0_3], M] := pick_sub [some 0, some 1] _ rfl
 have hsb : ∀ x ∈ fl ([[b0_3]] ++ [(fl [M])]), x ∈ fl [[b0_3], M] := fun x hx => hsb0 x (fl_unfold x hx)
 have hcall := gen_Maker_Items_w b0_3 a1_3 c1_3 x2.1 x2.2 12 _ w3 (fl [M]) (hpk.fold (P := [[b0_3]])) (hf3_2.sub hsb) hf3_1 hx
 refine x_call 19 #[] #[] [Vp b0_3 0, Vi 12] _ rfl rfl rfl rfl hcall ?_
 rintro v w7 ⟨a0_7, c0_7, rfl, he7, hp7_0, hmn7, hfn7, hf7_1⟩
 clear hcall hx
 refine inl1 ?_
 have hpk2 : MS w3 ([[b0_3]] ++ [M]) := hms.pick [some 0, some 1] _ rfl
 have hsb2 : ∀ x ∈ fl ([[b0_3]] ++ [M]), x ∈ fl [[b0_3], M] := pick_sub [some 0, some 1] _ rfl
 have hst0 := Stp.call (LS := [[b0_3], M]) (res := [blk a0_7]) (par := [[b0_3]]) (R := [M]) he7 (fun b hb => hsb2 b (fl_left' (P := [[b0_3]]) b hb)) hfn7 (NP.init _ _) (fun x hx => hsb2 x (fl_right' (P := [[b0_3]]) x hx))
 have hsn : ∀ x ∈ fl [blk a0_7, [b0_3], M], x ∈ fl ([blk a0_7] ++ ([[b0_3]] ++ [M])) := pick_sub [some 0, some 1, some 2] _ rfl
 have hst := hst0.res hsn
 replace hf3_2 := hf3_2.step hst
 replace hms : MS w7 [blk a0_7, [b0_3], M] := (MS.call (P := [[b0_3]]) (R := [M]) (res := [blk a0_7]) (par := [[b0_3]]) hpk2 he7 hmn7 hfn7 (NP.init _ _)).pick [some 0, some 1, some 2] _ rfl
 have hPf : ∀ b ∈ fl [[b0_3]], w.heap.size ≤ b := FR.mem (ls := [[b0_3]]) (hfr.pick [some 0] _ rfl)
 have hfr2 : FR w.heap.size [blk a0_7, [b0_3]] := (FR.cons (fun b hb => Nat.le_trans hev.size (hfn7.at 0 rfl b hb)) (FR.cons (hfr.at 0 rfl) (FR.nil _)))
 replace hev := hev.then he7 (fun b hb => .inr (hPf b hb))
 replace hfr := hfr2
 clear hfr2
 replace hf3_1 := hp7_0
 replace hf7_1 := OwnS.plain (M' := fl [blk a0_7, [b0_3], M]) (plain_prod (plain_int _) (plain_prod (plain_int _) (plain_prod (plain_int _) (plain_int _)))) hf7_1
 clear hpk hsb hsb0 hpk2 hsb2 hst0 hsn hst
 have hpk := hms.pick [some 1, some 2] [[b0_3], M] rfl
 have hsu := pick_sub (ls := [blk a0_7, [b0_3], M]) [some 1, some 2] [[b0_3], M] rfl
 replace hf3_2 := hf3_2.sub hsu
 replace hf7_1 := hf7_1.ro hsu (pick_out hms 0 rfl [some 1, some 2] [[b0_3], M] rfl rfl)
 replace hms := hpk
 replace hfr := hfr.pick [some 1] [[b0_3]] rfl
 clear hpk hsu
 refine x_u 1 [(26, Vp b0_3 0)] ?_
 obtain ⟨x9, hx, h⟩ := bind_some h
 have hpk : MS w7 ([[b0_3]] ++ [M]) := hms.pick [some 0, some 1] _ rfl
 have hsb0 : ∀ x ∈ fl ([[b0_3]] ++ [M]), x ∈ fl [[b0_3], M] := pick_sub [some 0, some 1] _ rfl
 have hsb : ∀ x ∈ fl ([[b0_3]] ++ [(fl [M])]), x ∈ fl [[b0_3], M] := fun x hx => hsb0 x (fl_unfold x hx)
 have hcall := law17_tracks_w b0_3 a1_3 c1_3 x2.1 x6.2 _ w7 (fl [M]) (hpk.fold (P := [[b0_3]])) (hf3_2.sub hsb) hf3_1 hx
 refine x_call 24 #[] #[] [Vp b0_3 0] _ rfl rfl rfl rfl hcall ?_
 rintro v w10 ⟨a0_10, c0_10, rfl, he10, hp10_0, hmn10, hfn10, hf10_1⟩
 clear hcall hx
 refine inl1 ?_
 have hpk2 : MS w7 ([[b0_3]] ++ [M]) := hms.pick [some 0, some 1] _ rfl
 have hsb2 : ∀ x ∈ fl ([[b0_3]] ++ [M]), x ∈ fl [[b0_3], M] := pick_sub [some 0, some 1] _ rfl
 have hst0 := Stp.call (LS := [[b0_3], M]) (res := [blk a0_10]) (par := [[b0_3]]) (R := [M]) he10 (fun b hb => hsb2 b (fl_left' (P := [[b0_3]]) b hb)) hfn10 (NP.init _ _) (fun x hx => hsb2 x (fl_right' (P := [[b0_3]]) x hx))
 have hsn : ∀ x ∈ fl [blk a0_10, [b0_3], M], x ∈ fl ([blk a0_10] ++ ([[b0_3]] ++ [M])) := pick_sub [some 0, some 1, some 2] _ rfl
 have hst := hst0.res hsn
 replace hf7_1 := hf7_1.step hst
 replace hms : MS w10 [blk a0_10, [b0_3], M] := (MS.call (P := [[b0_3]]) (R := [M]) (res := [blk a0_10]) (par := [[b0_3]]) hpk2 he10 hmn10 hfn10 (NP.init _ _)).pick [some 0, some 1, some 2] _ rfl
 have hPf : ∀ b ∈ fl [[b0_3]], w.heap.size ≤ b := FR.mem (ls := [[b0_3]]) (hfr.pick [some 0] _ rfl)
 have hfr2 : FR w.heap.size [blk a0_10, [b0_3]] := (FR.cons (fun b hb => Nat.le_trans hev.size (hfn10.at 0 rfl b hb)) (FR.cons (hfr.at 0 rfl) (FR.nil _)))
 replace hev := hev.then he10 (fun b hb => .inr (hPf b hb))
 replace hfr := hfr2
 clear hfr2
 replace hf10_1 := OwnS.plain (M' := fl [blk a0_10, [b0_3], M]) (plain_int _) hf10_1
 clear hpk hsb hsb0 hpk2 hsb2 hst0 hsn hst
 have hpk := hms.pick [some 1, some 2] [[b0_3], M] rfl
 have hsu := pick_sub (ls := [blk a0_10, [b0_3], M]) [some 1, some 2] [[b0_3], M] rfl
 replace hf7_1 := hf7_1.sub hsu
 replace hf10_1 := hf10_1.ro hsu (pick_out hms 0 rfl [some 1, some 2] [[b0_3], M] rfl rfl)
 replace hms := hpk
 replace hfr := hfr.pick [some 1] [[b0_3]] rfl
 clear hpk hsu
 refine x_u 2 [(4, Vl a0_7 x6.1 c0_7), (5, Vl a0_10 x9.1 c0_10)] (x_ek (c_sp (x_u 2 [(29, Vl a0_7 x6.1 c0_7), (30, Vl a0_10 x9.1 c0_10)] ?_)))
 obtain ⟨x12, hx, h⟩ := bind_some h
 have hcall := planner_Plan_w a0_7 c0_7 x6.1 a0_10 c0_10 x9.1 _ w10 (fl [[b0_3], M]) (MS.fold (P := []) hms) (hf7_1.sub fl1) (hf10_1.sub fl1) hx
 refine x_call 25 #[] #[] [Vl a0_7 x6.1 c0_7, Vl a0_10 x9.1 c0_10] _ rfl rfl rfl rfl hcall ?_
 rintro v w13 ⟨a0_13, c0_13, a2_13, c2_13, a4_13, c4_13, a6_13, c6_13, a8_13, c8_13, rfl, he13, hmn13, hfn13, hf13_1, hf13_2, hf13_3, hf13_4, hf13_5⟩
 clear hcall hx
 refine inl1 ?_
 have hst := Stp.call0 [[b0_3], M] [blk a0_13, blk a2_13, blk a4_13, blk a6_13, blk a8_13] [blk a0_13, blk a2_13, blk a4_13, blk a6_13, blk a8_13, [b0_3], M] he13 hfn13 rfl
 replace hf7_1 := hf7_1.step hst
 replace hf10_1 := hf10_1.step hst
 replace hms := MS.call0 [blk a0_13, blk a2_13, blk a4_13, blk a6_13, blk a8_13] [blk a0_13, blk a2_13, blk a4_13, blk a6_13, blk a8_13, [b0_3], M] hms he13 hmn13 hfn13 rfl
 have hfr2 := FR.call0 [blk a0_13, blk a2_13, blk a4_13, blk a6_13, blk a8_13, [b0_3]] hev.size hfn13 hfr rfl
 replace hev := hev.ext he13
 replace hfr := hfr2
 clear hfr2
 replace hf13_1 := OwnS.plain (M' := fl [blk a0_13, blk a2_13, blk a4_13, blk a6_13, blk a8_13, [b0_3], M]) (plain_prod (plain_int _) (plain_prod (plain_int _) (plain_prod (plain_int _) (plain_int _)))) hf13_1
 replace hf13_2 := OwnS.plain (M' := fl [blk a0_13, blk a2_13, blk a4_13, blk a6_13, blk a8_13, [b0_3], M]) (plain_int _) hf13_2
 replace hf13_3 := OwnS.plain (M' := fl [blk a0_13, blk a2_13, blk a4_13, blk a6_13, blk a8_13, [b0_3], M]) (plain_int _) hf13_3
 replace hf13_4 := OwnS.plain (M' := fl [blk a0_13, blk a2_13, blk a4_13, blk a6_13, blk a8_13, [b0_3], M]) (plain_int _) hf13_4
 clear hst
 have hpk := hms.pick [some 1, some 2, some 3, some 4, some 5, some 6] [blk a2_13, blk a4_13, blk a6_13, blk a8_13, [b0_3], M] rfl
 have hsu := pick_sub (ls := [blk a0_13, blk a2_13, blk a4_13, blk a6_13, blk a8_13, [b0_3], M]) [some 1, some 2, some 3, some 4, some 5, some 6] [blk a2_13, blk a4_13, blk a6_13, blk a8_13, [b0_3], M] rfl
 replace hf7_1 := hf7_1.sub hsu
 replace hf10_1 := hf10_1.sub hsu
 replace hf13_1 := hf13_1.ro hsu (pick_out hms 0 rfl [some 1, some 2, some 3, some 4, some 5, some 6] [blk a2_13, blk a4_13, blk a6_13, blk a8_13, [b0_3], M] rfl rfl)
 replace hf13_2 := hf13_2.sub hsu
 replace hf13_3 := hf13_3.sub hsu
 replace hf13_4 := hf13_4.sub hsu
 replace hms := hpk
 replace hfr := hfr.pick [some 1, some 2, some 3, some 4, some 5] [blk a2_13, blk a4_13, blk a6_13, blk a8_13, [b0_3]] rfl
 clear hpk hsu
 have hpk := hms.pick [some 1, some 2, some 3, some 4, some 5] [blk a4_13, blk a6_13, blk a8_13, [b0_3], M] rfl
 have hsu := pick_sub (ls := [blk a2_13, blk a4_13, blk a6_13, blk a8_13, [b0_3], M]) [some 1, some 2, some 3, some 4, some 5] [blk a4_13, blk a6_13, blk a8_13, [b0_3], M] rfl
 replace hf7_1 := hf7_1.sub hsu
 replace hf10_1 := hf10_1.sub hsu
 replace hf13_1 := hf13_1.sub hsu
 replace hf13_2 := hf13_2.ro hsu (pick_out hms 0 rfl [some 1, some 2, some 3, some 4, some 5] [blk a4_13, blk a6_13, blk a8_13, [b0_3], M] rfl rfl)
 replace hf13_3 := hf13_3.sub hsu
 replace hf13_4 := hf13_4.sub hsu
 replace hms := hpk
 replace hfr := hfr.pick [some 1, some 2, some 3, some 4] [blk a4_13, blk a6_13, blk a8_13, [b0_3]] rfl
 clear hpk hsu
 have hpk := hms.pick [some 1, some 2, some 3, some 4] [blk a6_13, blk a8_13, [b0_3], M] rfl
 have hsu := pick_sub (ls := [blk a4_13, blk a6_13, blk a8_13, [b0_3], M]) [some 1, some 2, some 3, some 4] [blk a6_13, blk a8_13, [b0_3], M] rfl
 replace hf7_1 := hf7_1.sub hsu
 replace hf10_1 := hf10_1.sub hsu
 replace hf13_1 := hf13_1.sub hsu
 replace hf13_2 := hf13_2.sub hsu
 replace hf13_3 := hf13_3.ro hsu (pick_out hms 0 rfl [some 1, some 2, some 3, some 4] [blk a6_13, blk a8_13, [b0_3], M] rfl rfl)
 replace hf13_4 := hf13_4.sub hsu
 replace hms := hpk
 replace hfr := hfr.pick [some 1, some 2, some 3] [blk a6_13, blk a8_13, [b0_3]] rfl
 clear hpk hsu
 have hpk := hms.pick [some 1, some 2, some 3] [blk a8_13, [b0_3], M] rfl
 have hsu := pick_sub (ls := [blk a6_13, blk a8_13, [b0_3], M]) [some 1, some 2, some 3] [blk a8_13, [b0_3], M] rfl
 replace hf7_1 := hf7_1.sub hsu
 replace hf10_1 := hf10_1.sub hsu
 replace hf13_1 := hf13_1.sub hsu
 replace hf13_2 := hf13_2.sub hsu
 replace hf13_3 := hf13_3.sub hsu
 replace hf13_4 := hf13_4.ro hsu (pick_out hms 0 rfl [some 1, some 2, some 3] [blk a8_13, [b0_3], M] rfl rfl)
 replace hms := hpk
 replace hfr := hfr.pick [some 1, some 2] [blk a8_13, [b0_3]] rfl
 clear hpk hsu
 have hpk := hms.pick [some 1, some 2] [[b0_3], M] rfl
 have hsu := pick_sub (ls := [blk a8_13, [b0_3], M]) [some 1, some 2] [[b0_3], M] rfl
 replace hf7_1 := hf7_1.sub hsu
 replace hf10_1 := hf10_1.sub hsu
 replace hf13_1 := hf13_1.sub hsu
 replace hf13_2 := hf13_2.sub hsu
 replace hf13_3 := hf13_3.sub hsu
 replace hf13_4 := hf13_4.sub hsu
 replace hms := hpk
 replace hfr := hfr.pick [some 1] [[b0_3]] rfl
 clear hpk hsu
 refine x_u 4 [(28, .tuple #[.agg #[Vl a0_13 x12.1.1.1 c0_13, Vi x12.1.1.2, Vi x12.1.2.1.1.1, Vl a2_13 x12.1.2.1.1.2 c2_13, Vl a4_13 x12.1.2.1.2 c4_13, Vl a6_13 x12.1.2.2 c6_13], Vl a8_13 x12.2.1 c8_13, Vi x12.2.2]), (32, .agg #[Vl a0_13 x12.1.1.1 c0_13, Vi x12.1.1.2, Vi x12.1.2.1.1.1, Vl a2_13 x12.1.2.1.1.2 c2_13, Vl a4_13 x12.1.2.1.2 c4_13, Vl a6_13 x12.1.2.2 c6_13]), (33, Vl a8_13 x12.2.1 c8_13), (34, Vi x12.2.2)] (x_alloc (z := .agg #[.slice none 0 0, Vi 0, Vi 0, .slice none 0 0, .slice none 0 0, .slice none 0 0]) rfl rfl (by kernel_rfl) (fun b19 w19 hq19 hb19 he19 hz19 => ?_))
 replace hb19 : w19.heap[b19]? = some (.cells #[.slice none 0 0, Vi 0, Vi 0, .slice none 0 0, .slice none 0 0, .slice none 0 0] 67 (0, 0)) := hb19
 refine inl1 ?_
 have hst := Stp.box (ls := [[b0_3], M]) he19 hq19
 replace hf7_1 := hf7_1.step hst
 replace hf10_1 := hf10_1.step hst
 replace hf13_1 := hf13_1.step hst
 replace hf13_2 := hf13_2.step hst
 replace hf13_3 := hf13_3.step hst
 replace hf13_4 := hf13_4.step hst
 replace hms := hms.box he19 hq19 hb19
 replace hfr := hfr.box hev.size hq19
 replace hev := hev.ext he19
 obtain ⟨w21, hr21, hb21, he21⟩ := store_boxagg 0 [Vl a0_13 x12.1.1.1 c0_13, Vi x12.1.1.2, Vi x12.1.2.1.1.1, Vl a2_13 x12.1.2.1.1.2 c2_13, Vl a4_13 x12.1.2.1.2 c4_13, Vl a6_13 x12.1.2.2 c6_13] #[Vl a0_13 x12.1.1.1 c0_13, Vi x12.1.1.2, Vi x12.1.2.1.1.1, Vl a2_13 x12.1.2.1.1.2 c2_13, Vl a4_13 x12.1.2.1.2 c4_13, Vl a6_13 x12.1.2.2 c6_13] tagg67 hb19 rfl rfl rfl
 refine x_store w21 (xv := Vp b19 0) (yv := .agg #[Vl a0_13 x12.1.1.1 c0_13, Vi x12.1.1.2, Vi x12.1.2.1.1.1, Vl a2_13 x12.1.2.1.1.2 c2_13, Vl a4_13 x12.1.2.1.2 c4_13, Vl a6_13 x12.1.2.2 c6_13]) rfl rfl rfl rfl hr21 (inl1 ?_)
 have hst := Stp.ev' (ls := [[b19], [b0_3], M]) he21 (mem_flat 0 rfl)
 replace hf7_1 := hf7_1.step hst
 replace hf10_1 := hf10_1.step hst
 replace hf13_1 := hf13_1.step hst
 replace hf13_2 := hf13_2.step hst
 replace hf13_3 := hf13_3.step hst
 replace hf13_4 := hf13_4.step hst
 replace hms := hms.ev he21
 replace hev := hev.then he21 (fun b hb => .inr (hfr.at 0 rfl b hb))
 replace hb19 := hb21
 refine x_u 2 [(7, Vl a8_13 x12.2.1 c8_13), (8, Vi x12.2.2)] (x_ek (c_nm [(4, Vl a0_7 x6.1 c0_7), (5, Vl a0_10 x9.1 c0_10), (6, Vp b19 0), (8, Vi x12.2.2)] (fun J => ?_)))
 refine c_seq (c_sp (x_u 2 [(35, Vi x12.2.2), (36, .bool (x12.2.2 != 0))] (x_ek (c_if (x12.2.2 != 0) rfl h (fun h => ?_) (fun h => ?_)))))
 · refine c_sp (x_u 3 [(37, Vi x12.2.2), (38, .bool (x12.2.2 == 15)), (39, .bool (x12.2.2 == 15))] (x_if 39 (x12.2.2 == 15) rfl h (fun h => ?_) (fun h => ?_)))
   · refine x_u 4 [(40, undef), (41, undef), (42, .bool true), (43, .bool true)] ?_
     obtain ⟨x23, hx, h⟩ := bind_some h
     have hcall := law17_sane_w _ w21 hx
     refine x_call 18 #[] #[] [] _ rfl rfl rfl rfl hcall ?_
     rintro v w24 ⟨rfl, he24⟩
     clear hcall hx
     refine inl1 ?_
     replace hev := hev.ext he24
     refine x_u 2 [(45, .bool x23), (2, .bool x23)] (x_ek (c_nm [(2, .bool x23)] (fun J => ?_)))
     refine c_ret (k_then_ret (r_ret (r_vals [.bool x23] ⟨rfl, trivial⟩ ?_)))
     obtain rfl := some_inj h
     exact ⟨rfl, hev⟩
   refine x_u 4 [(40, Vi x12.2.2), (41, .bool (x12.2.2 == 14)), (42, .bool (x12.2.2 == 14)), (43, .bool (x12.2.2 == 14))] (x_if 43 (x12.2.2 == 14) rfl h (fun h => ?_) (fun h => ?_))
   · obtain ⟨x25, hx, h⟩ := bind_some h
     have hcall := law17_sane_w _ w21 hx
     refine x_call 18 #[] #[] [] _ rfl rfl rfl rfl hcall ?_
     rintro v w26 ⟨rfl, he26⟩
     clear hcall hx
     refine inl1 ?_
     replace hev := hev.ext he26
     refine x_u 2 [(45, .bool x25), (2, .bool x25)] (x_ek (c_nm [(2, .bool x25)] (fun J => ?_)))
     refine c_ret (k_then_ret (r_ret (r_vals [.bool x25] ⟨rfl, trivial⟩ ?_)))
     obtain rfl := some_inj h
     exact ⟨rfl, hev⟩
   refine x_u 3 [(44, undef), (45, .bool false), (2, .bool false)] (x_ek (c_nm [(2, .bool false)] (fun J => ?_)))
   refine c_ret (k_then_ret (r_ret (r_vals [.bool false] ⟨rfl, trivial⟩ ?_)))
   obtain rfl := some_inj h
   exact ⟨rfl, hev⟩
 refine c_skip (k_then (c_sp (x_fieldAddr (xv := Vp b19 0) (Vp b19 0) rfl rfl rfl (reads_field tfld67_0 _ _) (x_load (xv := Vp b19 0) (.agg #[Vl a0_13 x12.1.1.1 c0_13, Vi x12.1.1.2]) rfl rfl rfl (reads_boxagg 0 [Vl a0_13 x12.1.1.1 c0_13, Vi x12.1.1.2] tagg50 hb19 nn rfl) (x_fieldAddr (xv := Vp b19 0) (Vp b19 2) rfl rfl rfl (reads_field tfld67_1 _ _) ?_)))))
 refine x_fieldAddr (xv := Vp b19 2) (Vp b19 2) rfl rfl rfl (reads_field tfld54_0 _ _) (x_load (xv := Vp b19 2) (.agg #[Vi x12.1.2.1.1.1, Vl a2_13 x12.1.2.1.1.2 c2_13]) rfl rfl rfl (reads_boxagg 2 [Vi x12.1.2.1.1.1, Vl a2_13 x12.1.2.1.1.2 c2_13] tagg52 hb19 nn rfl) ?_)
 obtain ⟨x27, hx, h⟩ := bind_some h
 have hcall := rollin_Run_w a0_13 c0_13 x12.1.1.1 x12.1.1.2 x12.1.2.1.1.1 a2_13 c2_13 x12.1.2.1.1.2 _ w21 (fl [[b19], [b0_3], M]) (MS.fold (P := []) hms) (hf13_1.sub fl1) (hf13_2.sub fl1) hx
 refine x_call 22 #[] #[] [.agg #[Vl a0_13 x12.1.1.1 c0_13, Vi x12.1.1.2], .agg #[Vi x12.1.2.1.1.1, Vl a2_13 x12.1.2.1.1.2 c2_13]] _ rfl rfl rfl rfl hcall ?_
 rintro v w28 ⟨a0_28, c0_28, B2_28, rfl, he28, hmn28, hfn28, hf28_1⟩
 clear hcall hx
 refine inl1 ?_
 have hst := Stp.call0 [[b19], [b0_3], M] [B2_28] [B2_28, [b19], [b0_3], M] he28 hfn28 rfl
 replace hf7_1 := hf7_1.step hst
 replace hf10_1 := hf10_1.step hst
 replace hf13_1 := hf13_1.step hst
 replace hf13_2 := hf13_2.step hst
 replace hf13_3 := hf13_3.step hst
 replace hf13_4 := hf13_4.step hst
 replace hb19 := he28.box hb19 nn
 replace hms := MS.call0 [B2_28] [B2_28, [b19], [b0_3], M] hms he28 hmn28 hfn28 rfl
 have hfr2 := FR.call0 [B2_28, [b19], [b0_3]] hev.size hfn28 hfr rfl
 replace hev := hev.ext he28
 replace hfr := hfr2
 clear hfr2
 clear hst
 have hpk := hms.pick [some 1, some 2, some 3] [[b19], [b0_3], M] rfl
 have hsu := pick_sub (ls := [B2_28, [b19], [b0_3], M]) [some 1, some 2, some 3] [[b19], [b0_3], M] rfl
 replace hf7_1 := hf7_1.sub hsu
 replace hf10_1 := hf10_1.sub hsu
 replace hf13_1 := hf13_1.sub hsu
 replace hf13_2 := hf13_2.sub hsu
 replace hf13_3 := hf13_3.sub hsu
 replace hf13_4 := hf13_4.sub hsu
 replace hf28_1 := hf28_1.ro (plain_int _) (pick_out hms 0 rfl [some 1, some 2, some 3] [[b19], [b0_3], M] rfl rfl)
 replace hms := hpk
 replace hfr := hfr.pick [some 1, some 2] [[b19], [b0_3]] rfl
 clear hpk hsu
 refine x_u 3 [(46, .tuple #[.agg #[Vl a0_28 x27.1.1 c0_28, Vi x27.1.2], Vi x27.2]), (53, .agg #[Vl a0_28 x27.1.1 c0_28, Vi x27.1.2]), (54, Vi x27.2)] (x_alloc (z := .agg #[.slice none 0 0, Vi 0]) rfl rfl (by kernel_rfl) (fun b30 w30 hq30 hb30 he30 hz30 => ?_))
 replace hb30 : w30.heap[b30]? = some (.cells #[.slice none 0 0, Vi 0] 59 (0, 0)) := hb30
 refine inl1 ?_
 have hst := Stp.box (ls := [[b19], [b0_3], M]) he30 hq30
 replace hf7_1 := hf7_1.step hst
 replace hf10_1 := hf10_1.step hst
 replace hf13_1 := hf13_1.step hst
 replace hf13_2 := hf13_2.step hst
 replace hf13_3 := hf13_3.step hst
 replace hf13_4 := hf13_4.step hst
 replace hb19 := he30.box hb19 nn
 replace hf28_1 := hf28_1.step hst
 replace hms := hms.box he30 hq30 hb30
 replace hfr := hfr.box hev.size hq30
 replace hev := hev.ext he30
 obtain ⟨w32, hr32, hb32, he32⟩ := store_boxagg 0 [Vl a0_28 x27.1.1 c0_28, Vi x27.1.2] #[Vl a0_28 x27.1.1 c0_28, Vi x27.1.2] tagg59 hb30 rfl rfl rfl
 refine x_store w32 (xv := Vp b30 0) (yv := .agg #[Vl a0_28 x27.1.1 c0_28, Vi x27.1.2]) rfl rfl rfl rfl hr32 (inl1 ?_)
 have hst := Stp.ev' (ls := [[b30], [b19], [b0_3], M]) he32 (mem_flat 0 rfl)
 replace hf7_1 := hf7_1.step hst
 replace hf10_1 := hf10_1.step hst
 replace hf13_1 := hf13_1.step hst
 replace hf13_2 := hf13_2.step hst
 replace hf13_3 := hf13_3.step hst
 replace hf13_4 := hf13_4.step hst
 replace hb19 := he32.box hb19 (hms.apart 1 0 rfl rfl rfl _ mem1)
 replace hf28_1 := hf28_1.step hst
 replace hms := hms.ev he32
 replace hev := hev.then he32 (fun b hb => .inr (hfr.at 0 rfl b hb))
 replace hb30 := hb32
 refine x_u 1 [(10, Vi x27.2)] (x_ek (c_nm [(4, Vl a0_7 x6.1 c0_7), (5, Vl a0_10 x9.1 c0_10), (6, Vp b19 0), (9, Vp b30 0), (10, Vi x27.2)] (fun J => ?_)))
 refine c_sp (x_fieldAddr (xv := Vp b19 0) (Vp b19 0) rfl rfl rfl (reads_field tfld67_0 _ _) (x_load (xv := Vp b19 0) (.agg #[Vl a0_13 x12.1.1.1 c0_13, Vi x12.1.1.2]) rfl rfl rfl (reads_boxagg 0 [Vl a0_13 x12.1.1.1 c0_13, Vi x12.1.1.2] tagg50 hb19 nn rfl) (x_fieldAddr (xv := Vp b30 0) (Vp b30 0) rfl rfl rfl (reads_field tfld59_0 _ _) (x_load (xv := Vp b30 0) (Vl a0_28 x27.1.1 c0_28) rfl rfl rfl (reads_box tcell57 hb30 nn 0 _ rfl) ?_))))
 obtain ⟨x33, hx, h⟩ := bind_some h
 have hcall := job_Sorted_w a0_13 c0_13 x12.1.1.1 x12.1.1.2 a0_28 c0_28 x27.1.1 _ w32 (fl [[b30], [b19], [b0_3], M]) (MS.fold (P := []) hms) (hf13_1.sub fl1) (hf28_1.sub fl1) hx
 refine x_call 27 #[] #[] [.agg #[Vl a0_13 x12.1.1.1 c0_13, Vi x12.1.1.2], Vl a0_28 x27.1.1 c0_28] _ rfl rfl rfl rfl hcall ?_
 rintro v w34 ⟨rfl, he34⟩
 clear hcall hx
 refine inl1 ?_
 have hst := Stp.ext (ls := [[b30], [b19], [b0_3], M]) he34
 replace hf7_1 := hf7_1.step hst
 replace hf10_1 := hf10_1.step hst
 replace hf13_1 := hf13_1.step hst
 replace hf13_2 := hf13_2.step hst
 replace hf13_3 := hf13_3.step hst
 replace hf13_4 := hf13_4.step hst
 replace hb19 := he34.box hb19 nn
 replace hb30 := he34.box hb30 nn
 replace hms := hms.ev he34
 replace hev := hev.ext he34
 refine x_u 5 [(55, .tuple #[.bool x33.1, Vi x33.2]), (61, .bool x33.1), (62, Vi x33.2), (11, .bool x33.1), (12, Vi x33.2)] (x_ek (c_seq (c_sp (x_u 3 [(63, Vi x27.2), (64, .bool (x27.2 != 0)), (65, .bool (x27.2 != 0))] (x_if 65 (x27.2 != 0) rfl h (fun h => ?_) (fun h => ?_))))))
 · refine x_u 21 [(66, undef), (67, undef), (68, .bool true), (69, .bool true), (70, undef), (71, undef), (72, .bool true), (73, .bool true), (74, undef), (75, undef), (76, undef), (77, undef), (78, undef), (79, undef), (80, undef), (81, undef), (82, undef), (83, undef), (84, undef), (85, undef), (86, .bool true)] (x_ek (c_nm [(4, Vl a0_7 x6.1 c0_7), (5, Vl a0_10 x9.1 c0_10), (6, Vp b19 0), (86, .bool true)] (fun J => ?_)))
   refine c_true rfl (c_sp (x_u 1 [(2, .bool false)] (x_ek (c_ret (k_then_ret ?_)))))
   refine r_ret (r_vals [.bool false] ⟨rfl, trivial⟩ ?_)
   obtain rfl := some_inj h
   exact ⟨rfl, hev⟩
 refine x_u 4 [(66, Vi x33.2), (67, .bool (x33.2 != 0)), (68, .bool (x33.2 != 0)), (69, .bool (x33.2 != 0))] (x_if 69 (x33.2 != 0) rfl h (fun h => ?_) (fun h => ?_))
 · refine x_u 17 [(70, undef), (71, undef), (72, .bool true), (73, .bool true), (74, undef), (75, undef), (76, undef), (77, undef), (78, undef), (79, undef), (80, undef), (81, undef), (82, undef), (83, undef), (84, undef), (85, undef), (86, .bool true)] (x_ek (c_nm [(4, Vl a0_7 x6.1 c0_7), (5, Vl a0_10 x9.1 c0_10), (6, Vp b19 0), (86, .bool true)] (fun J => ?_)))
   refine c_true rfl (c_sp (x_u 1 [(2, .bool false)] (x_ek (c_ret (k_then_ret ?_)))))
   refine r_ret (r_vals [.bool false] ⟨rfl, trivial⟩ ?_)
   obtain rfl := some_inj h
   exact ⟨rfl, hev⟩
 refine x_u 4 [(70, .bool x33.1), (71, .bool (!x33.1)), (72, .bool (!x33.1)), (73, .bool (!x33.1))] (x_if 73 (!x33.1) rfl h (fun h => ?_) (fun h => ?_))
 · refine x_u 13 [(74, undef), (75, undef), (76, undef), (77, undef), (78, undef), (79, undef), (80, undef), (81, undef), (82, undef), (83, undef), (84, undef), (85, undef), (86, .bool true)] (x_ek (c_nm [(4, Vl a0_7 x6.1 c0_7), (5, Vl a0_10 x9.1 c0_10), (6, Vp b19 0), (86, .bool true)] (fun J => ?_)))
   refine c_true rfl (c_sp (x_u 1 [(2, .bool false)] (x_ek (c_ret (k_then_ret ?_)))))
   refine r_ret (r_vals [.bool false] ⟨rfl, trivial⟩ ?_)
   obtain rfl := some_inj h
   exact ⟨rfl, hev⟩
 refine x_fieldAddr (xv := Vp b19 0) (Vp b19 5) rfl rfl rfl (reads_field tfld67_2 _ _) (x_load (xv := Vp b19 5) (Vl a6_13 x12.1.2.2 c6_13) rfl rfl rfl (reads_box tcell22 hb19 nn 5 _ rfl) (x_len (vs := [Vl a6_13 x12.1.2.2 c6_13]) (Vi ((x12.1.2.2).length : Int)) rfl rfl rfl (reads_len tsl22 _ _ _ _ _) (x_fieldAddr (xv := Vp b19 0) (Vp b19 2) rfl rfl rfl (reads_field tfld67_1 _ _) (x_fieldAddr (xv := Vp b19 2) (Vp b19 2) rfl rfl rfl (reads_field tfld54_0 _ _) (x_fieldAddr (xv := Vp b19 2) (Vp b19 2) rfl rfl rfl (reads_field tfld52_0 _ _) ?_)))))
 refine x_load (xv := Vp b19 2) (Vi x12.1.2.1.1.1) rfl rfl rfl (reads_box tcell3 hb19 nn 2 _ rfl) (x_fieldAddr (xv := Vp b30 0) (Vp b30 0) rfl rfl rfl (reads_field tfld59_0 _ _) (x_load (xv := Vp b30 0) (Vl a0_28 x27.1.1 c0_28) rfl rfl rfl (reads_box tcell57 hb30 nn 0 _ rfl) (x_len (vs := [Vl a0_28 x27.1.1 c0_28]) (Vi ((x27.1.1).length : Int)) rfl rfl rfl (reads_len tsl57 _ _ _ _ _) (x_u 3 [(84, Vi (IntKind.i64.wrap (x12.1.2.1.1.1 + ((x27.1.1).length : Int)))), (85, .bool (((x12.1.2.2).length : Int) != (IntKind.i64.wrap (x12.1.2.1.1.1 + ((x27.1.1).length : Int))))), (86, .bool (((x12.1.2.2).length : Int) != (IntKind.i64.wrap (x12.1.2.1.1.1 + ((x27.1.1).length : Int)))))] (x_ek ?_)))))
 refine c_nm [(4, Vl a0_7 x6.1 c0_7), (5, Vl a0_10 x9.1 c0_10), (6, Vp b19 0), (86, .bool (((x12.1.2.2).length : Int) != (IntKind.i64.wrap (x12.1.2.1.1.1 + ((x27.1.1).length : Int)))))] (fun J => ?_)
 refine c_if (((x12.1.2.2).length : Int) != (IntKind.i64.wrap (x12.1.2.1.1.1 + ((x27.1.1).length : Int)))) rfl h (fun h => ?_) (fun h => ?_)
 · refine c_sp (x_u 1 [(2, .bool false)] (x_ek (c_ret (k_then_ret (r_ret (r_vals [.bool false] ⟨rfl, trivial⟩ ?_))))))
   obtain rfl := some_inj h
   exact ⟨rfl, hev⟩
 refine c_skip (k_then (c_seq (c_sp (x_u 1 [(13, Vi 0)] (x_ek ?_)))))
 refine c_block ?_
 have hpk := hms.pick [some 1, some 3] [[b19], M] rfl
 have hsu := pick_sub (ls := [[b30], [b19], [b0_3], M]) [some 1, some 3] [[b19], M] rfl
 replace hf7_1 := hf7_1.sub hsu
 replace hf10_1 := hf10_1.sub hsu
 replace hf13_1 := hf13_1.sub hsu
 replace hf13_2 := hf13_2.sub hsu
 replace hf13_3 := hf13_3.sub hsu
 replace hf13_4 := hf13_4.sub hsu
 replace hms := hpk
 replace hfr := hfr.pick [some 1] [[b19]] rfl
 clear hpk hsu
 obtain ⟨d36, hd36, h36⟩ := bind_some h
 obtain ⟨m36, hd36⟩ := loop_some hd36
 refine c_loop (loop_rule hmx (σ := Nat × Int) (fun s => match s with | (_, time_s13_l36) => [(4, Vl a0_7 x6.1 c0_7), (5, Vl a0_10 x9.1 c0_10), (6, Vp b19 0), (13, Vi time_s13_l36)]) (fun s w' => match s with | (m, time_s13_l36) => loopN (law17_PlannerDelivers_L36 x6 x9 x12) m time_s13_l36 = some d36 ∧ Ev [] w w' ∧ MS w' [[b19], M] ∧ FR w.heap.size [[b19]] ∧ SlR (eIt4) w' (fl [[b19], M]) a0_7 c0_7 x6.1 ∧ SlR (eInt .i64) w' (fl [[b19], M]) a0_10 c0_10 x9.1 ∧ SlR (eIt4) w' (fl [[b19], M]) a0_13 c0_13 x12.1.1.1 ∧ SlR (eInt .i64) w' (fl [[b19], M]) a2_13 c2_13 x12.1.2.1.1.2 ∧ SlR (eInt .i64) w' (fl [[b19], M]) a4_13 c4_13 x12.1.2.1.2 ∧ SlR (eInt .i64) w' (fl [[b19], M]) a6_13 c6_13 x12.1.2.2 ∧ w'.heap[b19]? = some (.cells #[Vl a0_13 x12.1.1.1 c0_13, Vi x12.1.1.2, Vi x12.1.2.1.1.1, Vl a2_13 x12.1.2.1.1.2 c2_13, Vl a4_13 x12.1.2.1.2 c4_13, Vl a6_13 x12.1.2.2 c6_13] 67 (0, 0))) (fun s => s.1) (m36, 0) ⟨rfl, rfl, rfl, rfl, trivial⟩ ⟨hd36, hev, hms, hfr, hf7_1, hf10_1, hf13_1, hf13_2, hf13_3, hf13_4, hb19⟩ ?_)
 rintro ⟨m36, time_s13_l36⟩ J wl36 ⟨hn36, hev, hms, hfr, hf7_1, hf10_1, hf13_1, hf13_2, hf13_3, hf13_4, hb19⟩
 rcases m36 with _ | m36
 · exact (loopN_zero hn36).elim
 obtain ⟨t36, h, hn36⟩ := bind_some hn36
 refine c_seq (c_sp (x_u 1 [(87, Vi time_s13_l36)] (x_fieldAddr (xv := Vp b19 0) (Vp b19 2) rfl rfl rfl (reads_field tfld67_1 _ _) (x_fieldAddr (xv := Vp b19 2) (Vp b19 2) rfl rfl rfl (reads_field tfld54_0 _ _) (x_fieldAddr (xv := Vp b19 2) (Vp b19 2) rfl rfl rfl (reads_field tfld52_0 _ _) ?_)))))
 refine x_load (xv := Vp b19 2) (Vi x12.1.2.1.1.1) rfl rfl rfl (reads_box tcell3 hb19 nn 2 _ rfl) (x_u 1 [(92, .bool (decide (time_s13_l36 ≤ x12.1.2.1.1.1)))] (x_ek (c_nm [(4, Vl a0_7 x6.1 c0_7), (5, Vl a0_10 x9.1 c0_10), (6, Vp b19 0), (13, Vi time_s13_l36), (92, .bool (decide (time_s13_l36 ≤ x12.1.2.1.1.1)))] (fun J => ?_))))
 refine c_if (decide (time_s13_l36 ≤ x12.1.2.1.1.1)) rfl h (fun h => ?_) (fun h => ?_)
 · refine c_skip (k_then (c_seq (c_block (c_sp (x_fieldAddr (xv := Vp b19 0) (Vp b19 0) rfl rfl rfl (reads_field tfld67_0 _ _) ?_)))))
   refine x_load (xv := Vp b19 0) (.agg #[Vl a0_13 x12.1.1.1 c0_13, Vi x12.1.1.2]) rfl rfl rfl (reads_boxagg 0 [Vl a0_13 x12.1.1.1 c0_13, Vi x12.1.1.2] tagg50 hb19 nn rfl) (x_fieldAddr (xv := Vp b19 0) (Vp b19 2) rfl rfl rfl (reads_field tfld67_1 _ _) (x_fieldAddr (xv := Vp b19 2) (Vp b19 2) rfl rfl rfl (reads_field tfld54_0 _ _) (x_load (xv := Vp b19 2) (.agg #[Vi x12.1.2.1.1.1, Vl a2_13 x12.1.2.1.1.2 c2_13]) rfl rfl rfl (reads_boxagg 2 [Vi x12.1.2.1.1.1, Vl a2_13 x12.1.2.1.1.2 c2_13] tagg52 hb19 nn rfl) (x_u 1 [(101, Vi time_s13_l36)] ?_))))
   obtain ⟨x38, hx, h⟩ := bind_some h
   have hcall := rollin_Contents_w a0_13 c0_13 x12.1.1.1 x12.1.1.2 x12.1.2.1.1.1 a2_13 c2_13 x12.1.2.1.1.2 time_s13_l36 _ wl36 (fl [[b19], M]) (MS.fold (P := []) hms) (hf13_1.sub fl1) (hf13_2.sub fl1) hx
   refine x_call 28 #[] #[] [.agg #[Vl a0_13 x12.1.1.1 c0_13, Vi x12.1.1.2], .agg #[Vi x12.1.2.1.1.1, Vl a2_13 x12.1.2.1.1.2 c2_13], Vi time_s13_l36] _ rfl rfl rfl rfl hcall ?_
   rintro v w39 ⟨a0_39, c0_39, B2_39, a3_39, c3_39, B5_39, rfl, he39, hmn39, hfn39, hf39_1, hf39_2⟩
   clear hcall hx
   refine inl1 ?_
   have hst := Stp.call0 [[b19], M] [B2_39, B5_39] [B2_39, B5_39, [b19], M] he39 hfn39 rfl
   replace hf7_1 := hf7_1.step hst
   replace hf10_1 := hf10_1.step hst
   replace hb19 := he39.box hb19 nn
   replace hf13_1 := hf13_1.step hst
   replace hf13_2 := hf13_2.step hst
   replace hf13_3 := hf13_3.step hst
   replace hf13_4 := hf13_4.step hst
   replace hms := MS.call0 [B2_39, B5_39] [B2_39, B5_39, [b19], M] hms he39 hmn39 hfn39 rfl
   have hfr2 := FR.call0 [B2_39, B5_39, [b19]] hev.size hfn39 hfr rfl
   replace hev := hev.ext he39
   replace hfr := hfr2
   clear hfr2
   clear hst
   have hpk := hms.pick [some 1, some 2, some 3] [B5_39, [b19], M] rfl
   have hsu := pick_sub (ls := [B2_39, B5_39, [b19], M]) [some 1, some 2, some 3] [B5_39, [b19], M] rfl
   replace hf7_1 := hf7_1.sub hsu
   replace hf10_1 := hf10_1.sub hsu
   replace hf13_1 := hf13_1.sub hsu
   replace hf13_2 := hf13_2.sub hsu
   replace hf13_3 := hf13_3.sub hsu
   replace hf13_4 := hf13_4.sub hsu
   replace hf39_1 := hf39_1.ro (plain_int _) (pick_out hms 0 rfl [some 1, some 2, some 3] [B5_39, [b19], M] rfl rfl)
   replace hms := hpk
   replace hfr := hfr.pick [some 1, some 2] [B5_39, [b19]] rfl
   clear hpk hsu
   have hpk := hms.pick [some 1, some 2] [[b19], M] rfl
   have hsu := pick_sub (ls := [B5_39, [b19], M]) [some 1, some 2] [[b19], M] rfl
   replace hf7_1 := hf7_1.sub hsu
   replace hf10_1 := hf10_1.sub hsu
   replace hf13_1 := hf13_1.sub hsu
   replace hf13_2 := hf13_2.sub hsu
   replace hf13_3 := hf13_3.sub hsu
   replace hf13_4 := hf13_4.sub hsu
   replace hf39_1 := hf39_1.sub hsu
   replace hf39_2 := hf39_2.ro (plain_int _) (pick_out hms 0 rfl [some 1, some 2] [[b19], M] rfl rfl)
   replace hms := hpk
   replace hfr := hfr.pick [some 1] [[b19]] rfl
   clear hpk hsu
   refine x_u 7 [(95, .tuple #[Vl a0_39 x38.1 c0_39, Vl a3_39 x38.2.1 c3_39, Vi x38.2.2]), (103, Vl a0_39 x38.1 c0_39), (104, Vl a3_39 x38.2.1 c3_39), (105, Vi x38.2.2), (14, Vl a0_39 x38.1 c0_39), (15, Vl a3_39 x38.2.1 c3_39), (16, Vi x38.2.2)] (x_ek (c_nm [(4, Vl a0_7 x6.1 c0_7), (5, Vl a0_10 x9.1 c0_10), (6, Vp b19 0), (13, Vi time_s13_l36), (14, Vl a0_39 x38.1 c0_39), (15, Vl a3_39 x38.2.1 c3_39), (16, Vi x38.2.2)] (fun J => ?_)))
   refine c_seq (c_sp (x_u 2 [(106, Vi x38.2.2), (107, .bool (x38.2.2 != 0))] (x_ek (c_if (x38.2.2 != 0) rfl h (fun h => ?_) (fun h => ?_)))))
   · refine c_sp (x_u 1 [(2, .bool false)] (x_ek (c_ret (k_then_ret (k_block_ret ?_)))))
     refine k_then_ret ?_
     obtain rfl := some_inj h
     have hy := some_inj hn36
     subst hy
     replace h := h36
     refine k_then_ret (k_block_ret (k_then_ret (r_ret (r_vals [.bool false] ⟨rfl, trivial⟩ ?_))))
     obtain rfl := some_inj h
     exact ⟨rfl, hev⟩
   refine c_skip (k_then (c_sp (x_buildSlice (vs := []) #[] 22 rfl rfl rfl (by kernel_rfl) (fun b43 w43 hq43 hb43 he43 hz43 => ?_))))
   refine inl1 ?_
   obtain ⟨a43, ea43⟩ : ∃ a, a = some (⟨b43, 0, none⟩ : Addr) := ⟨_, rfl⟩
   have hw43 : ∀ M, OwnS (eSl (eInt .i64)) 22 w43 M a43 0 ([] : List (List Int)) := fun M => ea43 ▸ own_of_box hb43 (by decide) rfl rfl (cells_at (cs := []) CellsOf.nil)
   have hn43 : ∀ b ∈ blk a43, w39.heap.size ≤ b ∧ b < w43.heap.size := by subst ea43; intro b hb; simp only [blk, List.mem_singleton] at hb; subst hb; exact ⟨Nat.le_of_eq hq43.symm, lt_of_heap hb43⟩
   clear hb43
   have hst := Stp.push (ls := [[b19], M]) (l := blk a43) he43 (fun _ h => by cases h) (fun b hb => (hn43 b hb).1)
   replace hf7_1 := hf7_1.step hst
   replace hf10_1 := hf10_1.step hst
   replace hb19 := he43.box hb19 nn
   replace hf13_1 := hf13_1.step hst
   replace hf13_2 := hf13_2.step hst
   replace hf13_3 := hf13_3.step hst
   replace hf13_4 := hf13_4.step hst
   replace hf39_1 := hf39_1.step hst
   replace hf39_2 := hf39_2.step hst
   replace hms := hms.push he43 hn43
   replace hfr := hfr.push (fun b hb => Nat.le_trans hev.size (hn43 b hb).1)
   replace hev := hev.ext he43
   have ho43 := hw43 (fl [blk a43, [b19], M])
   clear hw43
   rw [← ea43]
   refine x_u 1 [(109, Vl a0_39 x38.1 c0_39)] ?_
   have hg := guard_l h
   replace h := guard_r h
   obtain ⟨a45, c45, w45, hr45, he45, hn45, hm45, hw45⟩ := own_appendN tel57 57 ho43 (mem_flat 0 rfl) hf39_1 hg
   refine x_builtin (vs := [.slice a43 (([] : List (List Int))).length 0, Vl a0_39 x38.1 c0_39]) _ w45 rfl rfl rfl rfl (run_value _ _ _ _ hr45) (inl1 ?_)
   have hst : Stp (fl [blk a43, [b19], M]) w43 (fl [blk a45, [b19], M]) w45 := Stp.upd 0 he45 rfl (fun b hb => (hn45 b hb).1)
   replace hf7_1 := hf7_1.step hst
   replace hf10_1 := hf10_1.step hst
   replace hb19 := he45.box hb19 (hms.apart 1 0 rfl rfl rfl _ mem1)
   replace hf13_1 := hf13_1.step hst
   replace hf13_2 := hf13_2.step hst
   replace hf13_3 := hf13_3.step hst
   replace hf13_4 := hf13_4.step hst
   replace hf39_2 := hf39_2.step hst
   replace hms : MS w45 [blk a45, [b19], M] := hms.upd 0 he45 rfl hn45
   have hfr2 : FR w.heap.size [blk a45, [b19]] := hfr.upd 0 rfl hev.size (fun b hb => (hn45 b hb).1)
   replace hev := hev.then he45 (fun b hb => .inr (hfr.at 0 rfl b hb))
   replace hfr := hfr2
   clear hfr2
   replace ho43 := hw45 (fl [blk a45, [b19], M]) hst.new
   clear hw45
   refine x_u 1 [(111, Vl a3_39 x38.2.1 c3_39)] ?_
   have hg := guard_l h
   replace h := guard_r h
   obtain ⟨a46, c46, w46, hr46, he46, hn46, hm46, hw46⟩ := own_appendN tel57 57 ho43 (mem_flat 0 rfl) hf39_2 hg
   refine x_builtin (vs := [.slice a45 ((([] : List (List Int)) ++ x38.1)).length c45, Vl a3_39 x38.2.1 c3_39]) _ w46 rfl rfl rfl rfl (run_value _ _ _ _ hr46) (inl1 ?_)
   have hst : Stp (fl [blk a45, [b19], M]) w45 (fl [blk a46, [b19], M]) w46 := Stp.upd 0 he46 rfl (fun b hb => (hn46 b hb).1)
   replace hf7_1 := hf7_1.step hst
   replace hf10_1 := hf10_1.step hst
   replace hb19 := he46.box hb19 (hms.apart 1 0 rfl rfl rfl _ mem1)
   replace hf13_1 := hf13_1.step hst
   replace hf13_2 := hf13_2.step hst
   replace hf13_3 := hf13_3.step hst
   replace hf13_4 := hf13_4.step hst
   replace hms : MS w46 [blk a46, [b19], M] := hms.upd 0 he46 rfl hn46
   have hfr2 : FR w.heap.size [blk a46, [b19]] := hfr.upd 0 rfl hev.size (fun b hb => (hn46 b hb).1)
   replace hev := hev.then he46 (fun b hb => .inr (hfr.at 0 rfl b hb))
   replace hfr := hfr2
   clear hfr2
   replace ho43 := hw46 (fl [blk a46, [b19], M]) hst.new
   clear hw46
   refine x_len (vs := [.slice a46 (((([] : List (List Int)) ++ x38.1) ++ x38.2.1)).length c46]) (Vi ((((([] : List (List Int)) ++ x38.1) ++ x38.2.1)).length : Int)) rfl rfl rfl (reads_len tsl57 _ _ _ _ _) (x_u 1 [(114, Vi 0)] (x_ek (c_block ?_)))
   have hpk := hms.pick [some 1, some 0, some 2] [[b19], blk a46, M] rfl
   have hsu := pick_sub (ls := [blk a46, [b19], M]) [some 1, some 0, some 2] [[b19], blk a46, M] rfl
   replace hf7_1 := hf7_1.sub hsu
   replace hf10_1 := hf10_1.sub hsu
   replace hf13_1 := hf13_1.sub hsu
   replace hf13_2 := hf13_2.sub hsu
   replace hf13_3 := hf13_3.sub hsu
   replace hf13_4 := hf13_4.sub hsu
   replace ho43 := ho43.sub hsu
   replace hms := hpk
   replace hfr := hfr.pick [some 1, some 0] [[b19], blk a46] rfl
   clear hpk hsu
   obtain ⟨d47, hd47, h47⟩ := bind_some h
   obtain ⟨m47, hd47⟩ := loop_some hd47
   refine c_loop (loop_rule hmx (σ := Nat × Int) (fun s => match s with | (_, t114__s114_l47) => [(4, Vl a0_7 x6.1 c0_7), (5, Vl a0_10 x9.1 c0_10), (6, Vp b19 0), (13, Vi time_s13_l36), (112, .slice a46 (((([] : List (List Int)) ++ x38.1) ++ x38.2.1)).length c46), (113, Vi ((((([] : List (List Int)) ++ x38.1) ++ x38.2.1)).length : Int)), (114, Vi t114__s114_l47)]) (fun s w' => match s with | (m, t114__s114_l47) => loopN (law17_PlannerDelivers_L47 x6 x9 x12 x38) m t114__s114_l47 = some d47 ∧ Ev [] w w' ∧ MS w' [[b19], blk a46, M] ∧ FR w.heap.size [[b19], blk a46] ∧ SlR (eIt4) w' (fl [[b19], blk a46, M]) a0_7 c0_7 x6.1 ∧ SlR (eInt .i64) w' (fl [[b19], blk a46, M]) a0_10 c0_10 x9.1 ∧ SlR (eIt4) w' (fl [[b19], blk a46, M]) a0_13 c0_13 x12.1.1.1 ∧ SlR (eInt .i64) w' (fl [[b19], blk a46, M]) a2_13 c2_13 x12.1.2.1.1.2 ∧ SlR (eInt .i64) w' (fl [[b19], blk a46, M]) a4_13 c4_13 x12.1.2.1.2 ∧ SlR (eInt .i64) w' (fl [[b19], blk a46, M]) a6_13 c6_13 x12.1.2.2 ∧ w'.heap[b19]? = some (.cells #[Vl a0_13 x12.1.1.1 c0_13, Vi x12.1.1.2, Vi x12.1.2.1.1.1, Vl a2_13 x12.1.2.1.1.2 c2_13, Vl a4_13 x12.1.2.1.2 c4_13, Vl a6_13 x12.1.2.2 c6_13] 67 (0, 0)) ∧ OwnS (eSl (eInt .i64)) 22 w' (fl [[b19], blk a46, M]) a46 c46 ((([] : List (List Int)) ++ x38.1) ++ x38.2.1)) (fun s => s.1) (m47, 0) ⟨rfl, rfl, rfl, rfl, rfl, rfl, rfl, trivial⟩ ⟨hd47, hev, hms, hfr, hf7_1, hf10_1, hf13_1, hf13_2, hf13_3, hf13_4, hb19, ho43⟩ ?_)
   rintro ⟨m47, t114__s114_l47⟩ J wl47 ⟨hn47, hev, hms, hfr, hf7_1, hf10_1, hf13_1, hf13_2, hf13_3, hf13_4, hb19, ho43⟩
   rcases m47 with _ | m47
   · exact (loopN_zero hn47).elim
   obtain ⟨t47, h, hn47⟩ := bind_some hn47
   refine c_sp (x_u 1 [(115, .bool (decide (t114__s114_l47 < ((((([] : List (List Int)) ++ x38.1) ++ x38.2.1)).length : Int))))] (x_ek (c_nm [(4, Vl a0_7 x6.1 c0_7), (5, Vl a0_10 x9.1 c0_10), (6, Vp b19 0), (13, Vi time_s13_l36), (112, .slice a46 (((([] : List (List Int)) ++ x38.1) ++ x38.2.1)).length c46), (113, Vi ((((([] : List (List Int)) ++ x38.1) ++ x38.2.1)).length : Int)), (114, Vi t114__s114_l47), (115, .bool (decide (t114__s114_l47 < ((((([] : List (List Int)) ++ x38.1) ++ x38.2.1)).length : Int))))] (fun J => ?_))))
   refine c_seq (c_if (decide (t114__s114_l47 < ((((([] : List (List Int)) ++ x38.1) ++ x38.2.1)).length : Int))) rfl h (fun h => ?_) (fun h => ?_))
   · refine c_skip (k_then (c_seq (c_block (c_sp (x_u 1 [(116, Vi t114__s114_l47)] ?_)))))
     obtain ⟨x49, hx49, h⟩ := bind_some h
     obtain ⟨g49, cs49, ha49, hr49, hc49, hR⟩ := own_index (Mo := []) tsl57 ho43 hx49
     obtain ⟨a50, c50, rfl, hs50⟩ := hR
     refine x_indexAddr (xv := .slice a46 (((([] : List (List Int)) ++ x38.1) ++ x38.2.1)).length c46) (yv := Vi t114__s114_l47) (.pointer (some ⟨g49, (Int.toNat t114__s114_l47) * (eSl (eInt .i64)).n, none⟩)) rfl rfl rfl rfl hr49 (x_load (xv := .pointer (some ⟨g49, (Int.toNat t114__s114_l47) * (eSl (eInt .i64)).n, none⟩)) (Vl a50 x49 c50) rfl rfl rfl (reads_cell0 tcell22 hc49 (fun _ h => by cases h)) ?_)
     refine x_u 2 [(17, Vi t114__s114_l47), (18, Vl a50 x49 c50)] (x_ek (c_sp (x_u 1 [(19, Vi 0)] (x_ek (c_seq ?_)))))
     refine c_sp (x_u 1 [(119, Vl a50 x49 c50)] (x_len (vs := [Vl a50 x49 c50]) (Vi ((x49).length : Int)) rfl rfl rfl (reads_len tsl22 _ _ _ _ _) (x_u 1 [(121, Vi 0)] (x_ek (c_block ?_)))))
     obtain ⟨d54, hd54, h54⟩ := bind_some h
     obtain ⟨m54, hd54⟩ := loop_some hd54
     refine c_loop (loop_rule hmx (σ := Nat × Int × Int) (fun s => match s with | (_, n_s19_l54, t121__s121_l54) => [(4, Vl a0_7 x6.1 c0_7), (5, Vl a0_10 x9.1 c0_10), (6, Vp b19 0), (13, Vi time_s13_l36), (17, Vi t114__s114_l47), (19, Vi n_s19_l54), (112, .slice a46 (((([] : List (List Int)) ++ x38.1) ++ x38.2.1)).length c46), (113, Vi ((((([] : List (List Int)) ++ x38.1) ++ x38.2.1)).length : Int)), (114, Vi t114__s114_l47), (119, Vl a50 x49 c50), (120, Vi ((x49).length : Int)), (121, Vi t121__s121_l54)]) (fun s w' => match s with | (m, n_s19_l54, t121__s121_l54) => loopN (law17_PlannerDelivers_L54 x6 x49) m (n_s19_l54, t121__s121_l54) = some d54 ∧ Ev [] w w' ∧ MS w' [[b19], blk a46, M] ∧ FR w.heap.size [[b19], blk a46] ∧ SlR (eIt4) w' (fl [[b19], blk a46, M]) a0_7 c0_7 x6.1 ∧ SlR (eInt .i64) w' (fl [[b19], blk a46, M]) a0_10 c0_10 x9.1 ∧ SlR (eIt4) w' (fl [[b19], blk a46, M]) a0_13 c0_13 x12.1.1.1 ∧ SlR (eInt .i64) w' (fl [[b19], blk a46, M]) a2_13 c2_13 x12.1.2.1.1.2 ∧ SlR (eInt .i64) w' (fl [[b19], blk a46, M]) a4_13 c4_13 x12.1.2.1.2 ∧ SlR (eInt .i64) w' (fl [[b19], blk a46, M]) a6_13 c6_13 x12.1.2.2 ∧ w'.heap[b19]? = some (.cells #[Vl a0_13 x12.1.1.1 c0_13, Vi x12.1.1.2, Vi x12.1.2.1.1.1, Vl a2_13 x12.1.2.1.1.2 c2_13, Vl a4_13 x12.1.2.1.2 c4_13, Vl a6_13 x12.1.2.2 c6_13] 67 (0, 0)) ∧ OwnS (eSl (eInt .i64)) 22 w' (fl [[b19], blk a46, M]) a46 c46 ((([] : List (List Int)) ++ x38.1) ++ x38.2.1) ∧ SlR (eInt .i64) w' (fl [[b19], blk a46, M]) a50 c50 x49) (fun s => s.1) (m54, 0, 0) ⟨rfl, rfl, rfl, rfl, rfl, rfl, rfl, rfl, rfl, rfl, rfl, rfl, trivial⟩ ⟨hd54, hev, hms, hfr, hf7_1, hf10_1, hf13_1, hf13_2, hf13_3, hf13_4, hb19, ho43, hs50⟩ ?_)
     rintro ⟨m54, n_s19_l54, t121__s121_l54⟩ J wl54 ⟨hn54, hev, hms, hfr, hf7_1, hf10_1, hf13_1, hf13_2, hf13_3, hf13_4, hb19, ho43, hs50⟩
     rcases m54 with _ | m54
     · exact (loopN_zero hn54).elim
     obtain ⟨t54, h, hn54⟩ := bind_some hn54
     refine c_sp (x_u 1 [(122, .bool (decide (t121__s121_l54 < ((x49).length : Int))))] (x_ek (c_nm [(4, Vl a0_7 x6.1 c0_7), (5, Vl a0_10 x9.1 c0_10), (6, Vp b19 0), (13, Vi time_s13_l36), (17, Vi t114__s114_l47), (19, Vi n_s19_l54), (112, .slice a46 (((([] : List (List Int)) ++ x38.1) ++ x38.2.1)).length c46), (113, Vi ((((([] : List (List Int)) ++ x38.1) ++ x38.2.1)).length : Int)), (114, Vi t114__s114_l47), (119, Vl a50 x49 c50), (120, Vi ((x49).length : Int)), (121, Vi t121__s121_l54), (122, .bool (decide (t121__s121_l54 < ((x49).length : Int))))] (fun J => ?_))))
     refine c_seq (c_if (decide (t121__s121_l54 < ((x49).length : Int))) rfl h (fun h => ?_) (fun h => ?_))
     · refine c_skip (k_then (c_seq (c_block (c_sp ?_))))
       obtain ⟨x56, hx56, h⟩ := bind_some h
       obtain ⟨ad56, cs56, hr56, hc56, hR⟩ := reads_index (Mo := []) tsl22 hs50 hx56
       obtain rfl := hR
       refine x_indexAddr (xv := Vl a50 x49 c50) (yv := Vi t121__s121_l54) (.pointer (some ad56)) rfl rfl rfl rfl hr56 (x_load (xv := .pointer (some ad56)) (Vi x56) rfl rfl rfl (reads_cell0 tcell3 hc56 (fun _ h => by cases h)) ?_)
       refine x_u 1 [(21, Vi x56)] (x_ek (c_seq (c_sp (x_u 3 [(125, Vi x56), (126, .bool (decide (x56 < 0))), (127, .bool (decide (x56 < 0)))] (x_if 127 (decide (x56 < 0)) rfl h (fun h => ?_) (fun h => ?_))))))
       · refine x_u 5 [(128, undef), (129, undef), (130, undef), (131, undef), (132, .bool true)] (x_ek (c_true rfl (c_sp (x_u 1 [(2, .bool false)] (x_ek ?_)))))
         refine c_nm [(2, .bool false)] (fun J => ?_)
         refine c_ret (k_then_ret (k_block_ret (k_then_ret ?_)))
         obtain rfl := some_inj h
         have hy := some_inj hn54
         subst hy
         replace h := h54
         refine k_then_ret (k_block_ret (k_then_ret (k_block_ret (k_then_ret ?_))))
         obtain rfl := some_inj h
         have hy := some_inj hn47
         subst hy
         replace h := h47
         refine k_then_ret (k_block_ret (k_block_ret (k_then_ret ?_)))
         obtain rfl := some_inj h
         have hy := some_inj hn36
         subst hy
         replace h := h36
         refine k_then_ret (k_block_ret (k_then_ret (r_ret (r_vals [.bool false] ⟨rfl, trivial⟩ ?_))))
         obtain rfl := some_inj h
         exact ⟨rfl, hev⟩
       refine x_u 2 [(128, Vi x56), (129, Vl a0_7 x6.1 c0_7)] (x_len (vs := [Vl a0_7 x6.1 c0_7]) (Vi ((x6.1).length : Int)) rfl rfl rfl (reads_len tsl36 _ _ _ _ _) (x_u 2 [(131, .bool (decide (x56 ≥ ((x6.1).length : Int)))), (132, .bool (decide (x56 ≥ ((x6.1).length : Int))))] (x_ek (c_if (decide (x56 ≥ ((x6.1).length : Int))) rfl h (fun h => ?_) (fun h => ?_)))))
       · refine c_sp (x_u 1 [(2, .bool false)] (x_ek (c_nm [(2, .bool false)] (fun J => ?_))))
         refine c_ret (k_then_ret (k_block_ret (k_then_ret ?_)))
         obtain rfl := some_inj h
         have hy := some_inj hn54
         subst hy
         replace h := h54
         refine k_then_ret (k_block_ret (k_then_ret (k_block_ret (k_then_ret ?_))))
         obtain rfl := some_inj h
         have hy := some_inj hn47
         subst hy
         replace h := h47
         refine k_then_ret (k_block_ret (k_block_ret (k_then_ret ?_)))
         obtain rfl := some_inj h
         have hy := some_inj hn36
         subst hy
         replace h := h36
         refine k_then_ret (k_block_ret (k_then_ret (r_ret (r_vals [.bool false] ⟨rfl, trivial⟩ ?_))))
         obtain rfl := some_inj h
         exact ⟨rfl, hev⟩
       refine c_skip (k_then (c_nm [(4, Vl a0_7 x6.1 c0_7), (5, Vl a0_10 x9.1 c0_10), (6, Vp b19 0), (13, Vi time_s13_l36), (17, Vi t114__s114_l47), (19, Vi n_s19_l54), (21, Vi x56), (112, .slice a46 (((([] : List (List Int)) ++ x38.1) ++ x38.2.1)).length c46), (113, Vi ((((([] : List (List Int)) ++ x38.1) ++ x38.2.1)).length : Int)), (114, Vi t114__s114_l47), (119, Vl a50 x49 c50), (120, Vi ((x49).length : Int)), (121, Vi t121__s121_l54)] (fun J => ?_)))
       refine c_plain (x_u 3 [(133, Vi n_s19_l54), (134, Vl a0_7 x6.1 c0_7), (135, Vi x56)] ?_)
       obtain ⟨x58, hx58, h⟩ := bind_some h
       obtain ⟨ad58, cs58, hr58, hc58, hR⟩ := reads_index (Mo := []) tsl36 hf7_1 hx58
       obtain ⟨_, _, rfl, rfl, ⟨_, _, rfl, rfl, ⟨_, _, rfl, rfl, rfl⟩⟩⟩ := hR
       refine x_indexAddr (xv := Vl a0_7 x6.1 c0_7) (yv := Vi x56) (.pointer (some ad58)) rfl rfl rfl rfl hr58 (x_fieldAddr (xv := .pointer (some ad58)) (.pointer (some (Addr.add ad58 3))) rfl rfl rfl (reads_field tfld76_3 _ _) (x_load (xv := .pointer (some (Addr.add ad58 3))) (Vi x58.2.2.2) rfl rfl rfl (reads_cell tcell3 hc58 (fun _ h => by cases h) 3 _ rfl) ?_))
       refine x_u 2 [(139, Vi (IntKind.i64.wrap (n_s19_l54 + x58.2.2.2))), (19, Vi (IntKind.i64.wrap (n_s19_l54 + x58.2.2.2)))] (x_end rfl (k_block (k_then (c_plain (x_u 2 [(140, Vi (IntKind.i64.wrap (t121__s121_l54 + 1))), (121, Vi (IntKind.i64.wrap (t121__s121_l54 + 1)))] ?_)))))
       refine x_end rfl ?_
       obtain rfl := some_inj h
       exact k_then ⟨(m54, IntKind.i64.wrap (n_s19_l54 + x58.2.2.2), IntKind.i64.wrap (t121__s121_l54 + 1)), ⟨rfl, rfl, rfl, rfl, rfl, rfl, rfl, rfl, rfl, rfl, rfl, rfl, trivial⟩, ⟨hn54, hev, hms, hfr, hf7_1, hf10_1, hf13_1, hf13_2, hf13_3, hf13_4, hb19, ho43, hs50⟩, Nat.lt_succ_self _⟩
     refine c_exit (k_then_exit ?_)
     obtain rfl := some_inj h
     have hy := some_inj hn54
     subst hy
     replace h := h54
     refine k_then_exit (k_block_in (k_then (c_nm [(4, Vl a0_7 x6.1 c0_7), (5, Vl a0_10 x9.1 c0_10), (6, Vp b19 0), (13, Vi time_s13_l36), (17, Vi t114__s114_l47), (19, Vi n_s19_l54), (112, .slice a46 (((([] : List (List Int)) ++ x38.1) ++ x38.2.1)).length c46), (113, Vi ((((([] : List (List Int)) ++ x38.1) ++ x38.2.1)).length : Int)), (114, Vi t114__s114_l47)] (fun J => ?_))))
     refine c_sp (x_u 1 [(141, Vi t114__s114_l47)] (x_fieldAddr (xv := Vp b19 0) (Vp b19 5) rfl rfl rfl (reads_field tfld67_2 _ _) (x_load (xv := Vp b19 5) (Vl a6_13 x12.1.2.2 c6_13) rfl rfl rfl (reads_box tcell22 hb19 nn 5 _ rfl) (x_len (vs := [Vl a6_13 x12.1.2.2 c6_13]) (Vi ((x12.1.2.2).length : Int)) rfl rfl rfl (reads_len tsl22 _ _ _ _ _) (x_u 2 [(145, .bool (decide (t114__s114_l47 ≥ ((x12.1.2.2).length : Int)))), (146, .bool (decide (t114__s114_l47 ≥ ((x12.1.2.2).length : Int))))] ?_)))))
     refine x_if 146 (decide (t114__s114_l47 ≥ ((x12.1.2.2).length : Int))) rfl h (fun h => ?_) (fun h => ?_)
     · refine x_u 33 [(147, undef), (148, undef), (149, undef), (150, undef), (151, undef), (152, undef), (153, undef), (154, undef), (155, undef), (156, undef), (157, undef), (158, undef), (159, undef), (160, undef), (161, undef), (162, undef), (163, undef), (164, undef), (165, undef), (166, undef), (167, undef), (168, undef), (169, undef), (170, undef), (171, undef), (172, undef), (173, undef), (174, undef), (175, undef), (176, undef), (177, undef), (178, undef), (179, .bool true)] (x_ek (c_nm [(4, Vl a0_7 x6.1 c0_7), (5, Vl a0_10 x9.1 c0_10), (6, Vp b19 0), (13, Vi time_s13_l36), (112, .slice a46 (((([] : List (List Int)) ++ x38.1) ++ x38.2.1)).length c46), (113, Vi ((((([] : List (List Int)) ++ x38.1) ++ x38.2.1)).length : Int)), (114, Vi t114__s114_l47), (179, .bool true)] (fun J => ?_)))
       refine c_true rfl (c_sp (x_u 1 [(2, .bool false)] (x_ek (c_ret (k_block_ret ?_)))))
       refine k_then_ret ?_
       obtain rfl := some_inj h
       have hy := some_inj hn47
       subst hy
       replace h := h47
       refine k_then_ret (k_block_ret (k_block_ret (k_then_ret ?_)))
       obtain rfl := some_inj h
       have hy := some_inj hn36
       subst hy
       replace h := h36
       refine k_then_ret (k_block_ret (k_then_ret (r_ret (r_vals [.bool false] ⟨rfl, trivial⟩ ?_))))
       obtain rfl := some_inj h
       exact ⟨rfl, hev⟩
     refine x_u 3 [(147, Vi n_s19_l54), (148, .bool (decide (n_s19_l54 > 0))), (149, .bool (decide (n_s19_l54 > 0)))] (x_if 149 (decide (n_s19_l54 > 0)) rfl h (fun h => ?_) (fun h => ?_))
     · refine x_fieldAddr (xv := Vp b19 0) (Vp b19 5) rfl rfl rfl (reads_field tfld67_2 _ _) (x_load (xv := Vp b19 5) (Vl a6_13 x12.1.2.2 c6_13) rfl rfl rfl (reads_box tcell22 hb19 nn 5 _ rfl) (x_u 1 [(152, Vi t114__s114_l47)] ?_))
       obtain ⟨x60, hx60, h⟩ := bind_some h
       obtain ⟨ad60, cs60, hr60, hc60, hR⟩ := reads_index (Mo := []) tsl22 hf13_4 hx60
       obtain rfl := hR
       refine x_indexAddr (xv := Vl a6_13 x12.1.2.2 c6_13) (yv := Vi t114__s114_l47) (.pointer (some ad60)) rfl rfl rfl rfl hr60 (x_load (xv := .pointer (some ad60)) (Vi x60) rfl rfl rfl (reads_cell0 tcell3 hc60 (fun _ h => by cases h)) ?_)
       refine x_u 2 [(155, .bool (decide (x60 < 0))), (156, .bool (decide (x60 < 0)))] (x_if 156 (decide (x60 < 0)) rfl h (fun h => ?_) (fun h => ?_))
       · refine x_u 23 [(157, undef), (158, undef), (159, undef), (160, undef), (161, undef), (162, undef), (163, undef), (164, undef), (165, .bool true), (166, .bool true), (167, undef), (168, undef), (169, undef), (170, undef), (171, undef), (172, undef), (173, undef), (174, undef), (175, undef), (176, undef), (177, .bool true), (178, .bool true), (179, .bool true)] (x_ek (c_nm [(4, Vl a0_7 x6.1 c0_7), (5, Vl a0_10 x9.1 c0_10), (6, Vp b19 0), (13, Vi time_s13_l36), (112, .slice a46 (((([] : List (List Int)) ++ x38.1) ++ x38.2.1)).length c46), (113, Vi ((((([] : List (List Int)) ++ x38.1) ++ x38.2.1)).length : Int)), (114, Vi t114__s114_l47), (179, .bool true)] (fun J => ?_)))
         refine c_true rfl (c_sp (x_u 1 [(2, .bool false)] (x_ek (c_ret (k_block_ret ?_)))))
         refine k_then_ret ?_
         obtain rfl := some_inj h
         have hy := some_inj hn47
         subst hy
         replace h := h47
         refine k_then_ret (k_block_ret (k_block_ret (k_then_ret ?_)))
         obtain rfl := some_inj h
         have hy := some_inj hn36
         subst hy
         replace h := h36
         refine k_then_ret (k_block_ret (k_then_ret (r_ret (r_vals [.bool false] ⟨rfl, trivial⟩ ?_))))
         obtain rfl := some_inj h
         exact ⟨rfl, hev⟩
       refine x_fieldAddr (xv := Vp b19 0) (Vp b19 5) rfl rfl rfl (reads_field tfld67_2 _ _) (x_load (xv := Vp b19 5) (Vl a6_13 x12.1.2.2 c6_13) rfl rfl rfl (reads_box tcell22 hb19 nn 5 _ rfl) (x_u 1 [(159, Vi t114__s114_l47)] ?_))
       obtain ⟨x62, hx62, h⟩ := bind_some h
       obtain ⟨ad62, cs62, hr62, hc62, hR⟩ := reads_index (Mo := []) tsl22 hf13_4 hx62
       obtain rfl := hR
       refine x_indexAddr (xv := Vl a6_13 x12.1.2.2 c6_13) (yv := Vi t114__s114_l47) (.pointer (some ad62)) rfl rfl rfl rfl hr62 (x_load (xv := .pointer (some ad62)) (Vi x62) rfl rfl rfl (reads_cell0 tcell3 hc62 (fun _ h => by cases h)) ?_)
       refine x_u 1 [(162, Vl a0_10 x9.1 c0_10)] (x_len (vs := [Vl a0_10 x9.1 c0_10]) (Vi ((x9.1).length : Int)) rfl rfl rfl (reads_len tsl22 _ _ _ _ _) (x_u 3 [(164, .bool (decide (x62 ≥ ((x9.1).length : Int)))), (165, .bool (decide (x62 ≥ ((x9.1).length : Int)))), (166, .bool (decide (x62 ≥ ((x9.1).length : Int))))] (x_if 166 (decide (x62 ≥ ((x9.1).length : Int))) rfl h (fun h => ?_) (fun h => ?_))))
       · refine x_u 13 [(167, undef), (168, undef), (169, undef), (170, undef), (171, undef), (172, undef), (173, undef), (174, undef), (175, undef), (176, undef), (177, .bool true), (178, .bool true), (179, .bool true)] (x_ek (c_nm [(4, Vl a0_7 x6.1 c0_7), (5, Vl a0_10 x9.1 c0_10), (6, Vp b19 0), (13, Vi time_s13_l36), (112, .slice a46 (((([] : List (List Int)) ++ x38.1) ++ x38.2.1)).length c46), (113, Vi ((((([] : List (List Int)) ++ x38.1) ++ x38.2.1)).length : Int)), (114, Vi t114__s114_l47), (179, .bool true)] (fun J => ?_)))
         refine c_true rfl (c_sp (x_u 1 [(2, .bool false)] (x_ek (c_ret (k_block_ret ?_)))))
         refine k_then_ret ?_
         obtain rfl := some_inj h
         have hy := some_inj hn47
         subst hy
         replace h := h47
         refine k_then_ret (k_block_ret (k_block_ret (k_then_ret ?_)))
         obtain rfl := some_inj h
         have hy := some_inj hn36
         subst hy
         replace h := h36
         refine k_then_ret (k_block_ret (k_then_ret (r_ret (r_vals [.bool false] ⟨rfl, trivial⟩ ?_))))
         obtain rfl := some_inj h
         exact ⟨rfl, hev⟩
       refine x_u 2 [(167, Vi n_s19_l54), (168, Vl a0_10 x9.1 c0_10)] (x_fieldAddr (xv := Vp b19 0) (Vp b19 5) rfl rfl rfl (reads_field tfld67_2 _ _) (x_load (xv := Vp b19 5) (Vl a6_13 x12.1.2.2 c6_13) rfl rfl rfl (reads_box tcell22 hb19 nn 5 _ rfl) (x_u 1 [(171, Vi t114__s114_l47)] ?_)))
       obtain ⟨x64, hx64, h⟩ := bind_some h
       obtain ⟨ad64, cs64, hr64, hc64, hR⟩ := reads_index (Mo := []) tsl22 hf13_4 hx64
       obtain rfl := hR
       refine x_indexAddr (xv := Vl a6_13 x12.1.2.2 c6_13) (yv := Vi t114__s114_l47) (.pointer (some ad64)) rfl rfl rfl rfl hr64 (x_load (xv := .pointer (some ad64)) (Vi x64) rfl rfl rfl (reads_cell0 tcell3 hc64 (fun _ h => by cases h)) ?_)
       obtain ⟨x66, hx66, h⟩ := bind_some h
       obtain ⟨ad66, cs66, hr66, hc66, hR⟩ := reads_index (Mo := []) tsl22 hf10_1 hx66
       obtain rfl := hR
       refine x_indexAddr (xv := Vl a0_10 x9.1 c0_10) (yv := Vi x64) (.pointer (some ad66)) rfl rfl rfl rfl hr66 (x_load (xv := .pointer (some ad66)) (Vi x66) rfl rfl rfl (reads_cell0 tcell3 hc66 (fun _ h => by cases h)) ?_)
       refine x_u 4 [(176, .bool (decide (n_s19_l54 > x66))), (177, .bool (decide (n_s19_l54 > x66))), (178, .bool (decide (n_s19_l54 > x66))), (179, .bool (decide (n_s19_l54 > x66)))] (x_ek (c_nm [(4, Vl a0_7 x6.1 c0_7), (5, Vl a0_10 x9.1 c0_10), (6, Vp b19 0), (13, Vi time_s13_l36), (112, .slice a46 (((([] : List (List Int)) ++ x38.1) ++ x38.2.1)).length c46), (113, Vi ((((([] : List (List Int)) ++ x38.1) ++ x38.2.1)).length : Int)), (114, Vi t114__s114_l47), (179, .bool (decide (n_s19_l54 > x66)))] (fun J => ?_)))
       refine c_if (decide (n_s19_l54 > x66)) rfl h (fun h => ?_) (fun h => ?_)
       · refine c_sp (x_u 1 [(2, .bool false)] (x_ek (c_ret (k_block_ret (k_then_ret ?_)))))
         obtain rfl := some_inj h
         have hy := some_inj hn47
         subst hy
         replace h := h47
         refine k_then_ret (k_block_ret (k_block_ret (k_then_ret ?_)))
         obtain rfl := some_inj h
         have hy := some_inj hn36
         subst hy
         replace h := h36
         refine k_then_ret (k_block_ret (k_then_ret (r_ret (r_vals [.bool false] ⟨rfl, trivial⟩ ?_))))
         obtain rfl := some_inj h
         exact ⟨rfl, hev⟩
       refine c_skip (k_block (k_then (c_plain (x_u 2 [(180, Vi (IntKind.i64.wrap (t114__s114_l47 + 1))), (114, Vi (IntKind.i64.wrap (t114__s114_l47 + 1)))] (x_end rfl ?_)))))
       obtain rfl := some_inj h
       exact k_then ⟨(m47, IntKind.i64.wrap (t114__s114_l47 + 1)), ⟨rfl, rfl, rfl, rfl, rfl, rfl, rfl, trivial⟩, ⟨hn47, hev, hms, hfr, hf7_1, hf10_1, hf13_1, hf13_2, hf13_3, hf13_4, hb19, ho43⟩, Nat.lt_succ_self _⟩
     refine x_u 30 [(150, undef), (151, undef), (152, undef), (153, undef), (154, undef), (155, undef), (156, undef), (157, undef), (158, undef), (159, undef), (160, undef), (161, undef), (162, undef), (163, undef), (164, undef), (165, undef), (166, undef), (167, undef), (168, undef), (169, undef), (170, undef), (171, undef), (172, undef), (173, undef), (174, undef), (175, undef), (176, undef), (177, undef), (178, .bool false), (179, .bool false)] (x_ek (c_nm [(4, Vl a0_7 x6.1 c0_7), (5, Vl a0_10 x9.1 c0_10), (6, Vp b19 0), (13, Vi time_s13_l36), (112, .slice a46 (((([] : List (List Int)) ++ x38.1) ++ x38.2.1)).length c46), (113, Vi ((((([] : List (List Int)) ++ x38.1) ++ x38.2.1)).length : Int)), (114, Vi t114__s114_l47), (179, .bool false)] (fun J => ?_)))
     refine c_false rfl (c_skip (k_block (k_then (c_plain (x_u 2 [(180, Vi (IntKind.i64.wrap (t114__s114_l47 + 1))), (114, Vi (IntKind.i64.wrap (t114__s114_l47 + 1)))] ?_)))))
     refine x_end rfl ?_
     obtain rfl := some_inj h
     exact k_then ⟨(m47, IntKind.i64.wrap (t114__s114_l47 + 1)), ⟨rfl, rfl, rfl, rfl, rfl, rfl, rfl, trivial⟩, ⟨hn47, hev, hms, hfr, hf7_1, hf10_1, hf13_1, hf13_2, hf13_3, hf13_4, hb19, ho43⟩, Nat.lt_succ_self _⟩
   refine c_exit (k_then_exit ?_)
   obtain rfl := some_inj h
   have hy := some_inj hn47
   subst hy
   replace h := h47
   refine k_then_exit (k_block_in (k_block (k_then (c_nm [(4, Vl a0_7 x6.1 c0_7), (5, Vl a0_10 x9.1 c0_10), (6, Vp b19 0), (13, Vi time_s13_l36)] (fun J => ?_)))))
   refine c_plain (x_u 3 [(93, Vi time_s13_l36), (94, Vi (IntKind.i64.wrap (time_s13_l36 + 1))), (13, Vi (IntKind.i64.wrap (time_s13_l36 + 1)))] (x_end rfl ?_))
   obtain rfl := some_inj h
   have hpk := hms.pick [some 0, some 2] [[b19], M] rfl
   have hsu := pick_sub (ls := [[b19], blk a46, M]) [some 0, some 2] [[b19], M] rfl
   replace hf7_1 := hf7_1.sub hsu
   replace hf10_1 := hf10_1.sub hsu
   replace hf13_1 := hf13_1.sub hsu
   replace hf13_2 := hf13_2.sub hsu
   replace hf13_3 := hf13_3.sub hsu
   replace hf13_4 := hf13_4.sub hsu
   replace hms := hpk
   replace hfr := hfr.pick [some 0] [[b19]] rfl
   clear hpk hsu
   exact k_then ⟨(m36, IntKind.i64.wrap (time_s13_l36 + 1)), ⟨rfl, rfl, rfl, rfl, trivial⟩, ⟨hn36, hev, hms, hfr, hf7_1, hf10_1, hf13_1, hf13_2, hf13_3, hf13_4, hb19⟩, Nat.lt_succ_self _⟩
 refine c_exit (k_then_exit ?_)
 obtain rfl := some_inj h
 have hy := some_inj hn36
 subst hy
 replace h := h36
 refine k_then_exit (k_block_in (k_then (c_norm [] trivial (fun J => ?_))))
 refine c_sp ?_
 obtain ⟨x68, hx, h⟩ := bind_some h
 have hcall := law17_sane_w _ wl36 hx
 refine x_call 18 #[] #[] [] _ rfl rfl rfl rfl hcall ?_
 rintro v w69 ⟨rfl, he69⟩
 clear hcall hx
 refine inl1 ?_
 replace hev := hev.ext he69
 refine x_u 1 [(2, .bool x68)] (x_ek (c_ret (r_ret (r_vals [.bool x68] ⟨rfl, trivial⟩ ?_))))
 obtain rfl := some_inj h
 exact ⟨rfl, hev⟩

end Go.Proofs.YtlejnkhaphlooaaGreat
