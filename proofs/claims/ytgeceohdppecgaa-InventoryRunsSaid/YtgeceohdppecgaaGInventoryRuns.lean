
/- Walks, printed by program: each function returns what the partial function of the same name returns. Conditions: those of each theorem. -/
import Derived.Test.YtgeceohdppecgaaGT
import Derived.Test.YtgeceohdppecgaaGgen
import Derived.Test.YtgeceohdppecgaaGinventory
import Derived.Test.YtgeceohdppecgaaGlaw42made
import Derived.Test.YtgeceohdppecgaaGlaw42sane
import Derived.Test.YtgeceohdppecgaaGlaw42shift
import Derived.Test.YtgeceohdppecgaaGr42
set_option linter.unusedVariables false
set_option linter.unusedSimpArgs false
set_option maxRecDepth 4000
namespace Go.Proofs.Ytgeceohdppecgaa
open Go Go.V Go.Proofs
def law42_InventoryRuns_L39 (x6 : (List ((List UInt8) × Int)) × (List Int) × (List (List Int)) × Int) (d16_x14 : List (Int × Int × Int × Bool)) (x35 : (List (List Int)) × Int × Int) (s : (List (List Int)) × Int) : Option (Step ((List (List Int)) × Int) (Bool ⊕ (List (List Int)))) :=
match s with
| (d10_l39, i_s17_l39) =>
(if (decide (i_s17_l39 < ((d16_x14).length : Int))) = true then
((idx d16_x14 i_s17_l39).bind fun x41 =>
((inventory_Apply x6.1 x6.2.1 d10_l39 x41.1 x41.2.1 x41.2.2.1 x41.2.2.2).bind fun x43 =>
(if (x43.2 != 0) = true then
(if (x35.2.2 == x43.2) = true then
(if (x35.2.1 == i_s17_l39) = true then
(if (((x35.1).length : Int) == 0) = true then
((law42_sane).bind fun x46 =>
some (.done (.inl x46)))
else
some (.done (.inl false)))
else
some (.done (.inl false)))
else
some (.done (.inl false)))
else
some (.next (x43.1, IntKind.i64.wrap (i_s17_l39 + 1))))))
else
some (.done (.inr d10_l39)))

def law42_InventoryRuns_L14 (x2 : ((List Int) × Int)) (x6 : (List ((List UInt8) × Int)) × (List Int) × (List (List Int)) × Int) (s : Int × (List (Int × Int × Int × Bool)) × (List (List Int)) × Int) : Option (Step (Int × (List (Int × Int × Int × Bool)) × (List (List Int)) × Int) (List (Int × Int × Int × Bool))) :=
match s with
| (e4_l14_1, d16_l14, d17_l14, i_s9_l14) =>
(if (decide (i_s9_l14 > 0)) = true then
((law42_shift x2.1 e4_l14_1 x6.2.1 d17_l14).bind fun x19 =>
((r42_Apply x6.1 x6.2.1 d17_l14 x19.1.1 x19.1.2.1 x19.1.2.2.1 x19.1.2.2.2).bind fun x24 =>
(if (x24.2 == 0) = true then
(if d16_l14.length + ([(x19.1.1, x19.1.2.1, x19.1.2.2.1, x19.1.2.2.2)] : List (Int × Int × Int × Bool)).length ≤ 4294967296 then
some (.next (x19.2, (d16_l14 ++ ([(x19.1.1, x19.1.2.1, x19.1.2.2.1, x19.1.2.2.2)] : List (Int × Int × Int × Bool))), x24.1, IntKind.i64.wrap (i_s9_l14 - 1)))
else none)
else
((gen_Maker_Next x2.1 x19.2 4).bind fun x30 =>
(if (decide (x30.1 > 0)) = true then
some (.next (x30.2, d16_l14, d17_l14, IntKind.i64.wrap (i_s9_l14 - 1)))
else
(if d16_l14.length + ([(x19.1.1, x19.1.2.1, x19.1.2.2.1, x19.1.2.2.2)] : List (Int × Int × Int × Bool)).length ≤ 4294967296 then
some (.next (x30.2, (d16_l14 ++ ([(x19.1.1, x19.1.2.1, x19.1.2.2.1, x19.1.2.2.2)] : List (Int × Int × Int × Bool))), d17_l14, IntKind.i64.wrap (i_s9_l14 - 1)))
else none))))))
else
some (.done d16_l14))

def law42_InventoryRuns (p0 : List Int) : Option Bool :=
((gen_New p0).bind fun x2 =>
((law42_made x2.1 x2.2).bind fun x6 =>
((gen_Maker_Next x2.1 x6.2.2.2 10).bind fun x12 =>
((loop (law42_InventoryRuns_L14 x2 x6) (x12.2, ([] : List (Int × Int × Int × Bool)), x6.2.2.1, x12.1)).bind fun d => match d with
| d16_x14 => ((inventory_Run x6.1 x6.2.1 x6.2.2.1 d16_x14).bind fun x35 =>
((loop (law42_InventoryRuns_L39 x6 d16_x14 x35) (x6.2.2.1, 0)).bind fun d => match d with
| (.inl t2__s2_x3900) => some t2__s2_x3900
| (.inr d10_x3901) => (if (x35.2.2 == 0) = true then
(if (x35.2.1 == ((d16_x14).length : Int)) = true then
((gen_Lists x35.1 d10_x3901).bind fun x48 =>
(if x48 = true then
((law42_sane).bind fun x50 =>
some x50)
else
some false))
else
some false)
else
some false)))))))

theorem law42_InventoryRuns_w (a_p0 : Option Addr) (c_p0 : Nat) (p0 : List Int) (r : Bool) (w : World) (M : List Nat) (hms : MS w [M]) (hs_p0 : SlR (eInt .i64) w (fl [M]) a_p0 c_p0 p0) (h : law42_InventoryRuns p0 = some r) : CallVC Try.prog 5 [Vl a_p0 p0 c_p0] w fun v w' => v = .bool r ∧ Ev [] w w' := by
 refine calls_vc hmx Try.func5 (by kernel_rfl) rfl (rs := [.tmp 2]) rfl (by kernel_rfl) (args := [Vl a_p0 p0 c_p0]) rfl ?_
 have hev : Ev [] w w := Ev.refl _ _
 have hfr : FR w.heap.size [] := FR.nil _
 refine c_sp ?_
 refine x_u 1 [(2, .bool false)] ?_
 refine x_ek ?_
 refine c_sp ?_
 refine x_u 1 [(20, Vl a_p0 p0 c_p0)] ?_
 obtain ⟨x2, hx, h⟩ := bind_some h
 have hpk : MS w ([] ++ [M]) := hms.pick [some 0] _ rfl
 have hsb0 : ∀ x ∈ fl ([] ++ [M]), x ∈ fl [M] := pick_sub [some 0] _ rfl
 have hsb : ∀ x ∈ fl ([] ++ [(fl [M])]), x ∈ fl [M] := fun x hx => hsb0 x (fl_unfold x hx)
 have hcall := gen_New_w a_p0 c_p0 p0 _ w (fl [M]) (MS.fold (P := []) hpk) (hs_p0.sub hsb) hx
 refine x_call 6 #[] #[] [Vl a_p0 p0 c_p0] _ rfl rfl rfl rfl hcall ?_
 rintro v w3 ⟨b0_3, a1_3, c1_3, rfl, he3, hmn3, hfn3, hf3_1, hf3_2⟩
 clear hcall hx
 refine inl1 ?_
 have hpk2 : MS w ([] ++ [M]) := hms.pick [some 0] _ rfl
 have hsb2 : ∀ x ∈ fl ([] ++ [M]), x ∈ fl [M] := pick_sub [some 0] _ rfl
 have hst0 := Stp.call (LS := [M]) (res := [[b0_3]]) (par := []) (R := [M]) he3 (fun b hb => hsb2 b (fl_left' (P := []) b hb)) hfn3 (NP.init _ _) (fun x hx => hsb2 x (fl_right' (P := []) x hx))
 have hsn : ∀ x ∈ fl [[b0_3], M], x ∈ fl ([[b0_3]] ++ ([] ++ [M])) := pick_sub [some 0, some 1] _ rfl
 have hst := hst0.res hsn
 replace hs_p0 := hs_p0.step hst
 replace hms : MS w3 [[b0_3], M] := (MS.call (P := []) (R := [M]) (res := [[b0_3]]) (par := []) hpk2 he3 hmn3 hfn3 (NP.init _ _)).pick [some 0, some 1] _ rfl
 have hfr2 : FR w.heap.size [[b0_3]] := (FR.cons (fun b hb => Nat.le_trans hev.size (hfn3.at 0 rfl b hb)) (FR.nil _))
 replace hev := hev.ext he3
 replace hfr := hfr2
 clear hfr2
 have hsp : ∀ x ∈ fl [[b0_3], M], x ∈ fl ([[b0_3]] ++ ([] ++ [(fl [M])])) := fun x hx => fl_tot (res := [[b0_3]]) (par := []) (R := [M]) x (hsn x hx)
 replace hf3_2 := hf3_2.sub hsp
 clear hpk hsb hsb0 hpk2 hsb2 hst0 hsn hst
 refine x_u 1 [(3, Vp b0_3 0)] ?_
 refine x_ek ?_
 refine c_sp ?_
 refine x_u 1 [(23, Vp b0_3 0)] ?_
 obtain ⟨x6, hx, h⟩ := bind_some h
 have hpk : MS w3 ([[b0_3]] ++ [M]) := hms.pick [some 0, some 1] _ rfl
 have hsb0 : ∀ x ∈ fl ([[b0_3]] ++ [M]), x ∈ fl [[b0_3], M] := pick_sub [some 0, some 1] _ rfl
 have hsb : ∀ x ∈ fl ([[b0_3]] ++ [(fl [M])]), x ∈ fl [[b0_3], M] := fun x hx => hsb0 x (fl_unfold x hx)
 have hcall := law42_made_w b0_3 a1_3 c1_3 x2.1 x2.2 _ w3 (fl [M]) (hpk.fold (P := [[b0_3]])) (hf3_2.sub hsb) hf3_1 hx
 refine x_call 7 #[] #[] [Vp b0_3 0] _ rfl rfl rfl rfl hcall ?_
 rintro v w7 ⟨a0_7, c0_7, a2_7, c2_7, a4_7, c4_7, B6_7, rfl, he7, hp7_0, hmn7, hfn7, hf7_1, hf7_2, hf7_3⟩
 clear hcall hx
 refine inl1 ?_
 have hpk2 : MS w3 ([[b0_3]] ++ [M]) := hms.pick [some 0, some 1] _ rfl
 have hsb2 : ∀ x ∈ fl ([[b0_3]] ++ [M]), x ∈ fl [[b0_3], M] := pick_sub [some 0, some 1] _ rfl
 have hst0 := Stp.call (LS := [[b0_3], M]) (res := [blk a0_7, blk a2_7, B6_7]) (par := [[b0_3]]) (R := [M]) he7 (fun b hb => hsb2 b (fl_left' (P := [[b0_3]]) b hb)) hfn7 (NP.init _ _) (fun x hx => hsb2 x (fl_right' (P := [[b0_3]]) x hx))
 have hsn : ∀ x ∈ fl [blk a0_7, blk a2_7, B6_7, [b0_3], M], x ∈ fl ([blk a0_7, blk a2_7, B6_7] ++ ([[b0_3]] ++ [M])) := pick_sub [some 0, some 1, some 2, some 3, some 4] _ rfl
 have hst := hst0.res hsn
 replace hf3_2 := hf3_2.step hst
 replace hms : MS w7 [blk a0_7, blk a2_7, B6_7, [b0_3], M] := (MS.call (P := [[b0_3]]) (R := [M]) (res := [blk a0_7, blk a2_7, B6_7]) (par := [[b0_3]]) hpk2 he7 hmn7 hfn7 (NP.init _ _)).pick [some 0, some 1, some 2, some 3, some 4] _ rfl
 have hPf : ∀ b ∈ fl [[b0_3]], w.heap.size ≤ b := FR.mem (ls := [[b0_3]]) (hfr.pick [some 0] _ rfl)
 have hfr2 : FR w.heap.size [blk a0_7, blk a2_7, B6_7, [b0_3]] := (FR.cons (fun b hb => Nat.le_trans hev.size (hfn7.at 0 rfl b hb)) (FR.cons (fun b hb => Nat.le_trans hev.size (hfn7.at 1 rfl b hb)) (FR.cons (fun b hb => Nat.le_trans hev.size (hfn7.at 2 rfl b hb)) (FR.cons (hfr.at 0 rfl) (FR.nil _)))))
 replace hev := hev.then he7 (fun b hb => .inr (hPf b hb))
 replace hfr := hfr2
 clear hfr2
 replace hf3_1 := hp7_0
 replace hf7_1 := OwnS.plain (M' := fl [blk a0_7, blk a2_7, B6_7, [b0_3], M]) (plain_prod plain_str (plain_int _)) hf7_1
 replace hf7_2 := OwnS.plain (M' := fl [blk a0_7, blk a2_7, B6_7, [b0_3], M]) (plain_int _) hf7_2
 clear hpk hsb hsb0 hpk2 hsb2 hst0 hsn hst
 have hpk : MS w7 [blk a2_7, B6_7, [b0_3], M] := hms.pick [some 1, some 2, some 3, some 4] _ rfl
 have hsu : ∀ x ∈ fl [blk a2_7, B6_7, [b0_3], M], x ∈ fl [blk a0_7, blk a2_7, B6_7, [b0_3], M] := pick_sub [some 1, some 2, some 3, some 4] _ rfl
 replace hf3_2 := hf3_2.sub hsu
 replace hf7_1 := hf7_1.ro hsu (pick_out hms 0 rfl [some 1, some 2, some 3, some 4] [blk a2_7, B6_7, [b0_3], M] rfl rfl)
 replace hf7_2 := hf7_2.sub hsu
 replace hms := hpk
 replace hfr : FR w.heap.size [blk a2_7, B6_7, [b0_3]] := hfr.pick [some 1, some 2, some 3] _ rfl
 clear hpk hsu
 have hpk : MS w7 [B6_7, [b0_3], M] := hms.pick [some 1, some 2, some 3] _ rfl
 have hsu : ∀ x ∈ fl [B6_7, [b0_3], M], x ∈ fl [blk a2_7, B6_7, [b0_3], M] := pick_sub [some 1, some 2, some 3] _ rfl
 replace hf3_2 := hf3_2.sub hsu
 replace hf7_1 := hf7_1.sub hsu
 replace hf7_2 := hf7_2.ro hsu (pick_out hms 0 rfl [some 1, some 2, some 3] [B6_7, [b0_3], M] rfl rfl)
 replace hms := hpk
 replace hfr : FR w.heap.size [B6_7, [b0_3]] := hfr.pick [some 1, some 2] _ rfl
 clear hpk hsu
 have hpk : MS w7 [[b0_3], M] := hms.pick [some 1, some 2] _ rfl
 have hsu : ∀ x ∈ fl [[b0_3], M], x ∈ fl [B6_7, [b0_3], M] := pick_sub [some 1, some 2] _ rfl
 replace hf3_2 := hf3_2.sub hsu
 replace hf7_1 := hf7_1.sub hsu
 replace hf7_2 := hf7_2.sub hsu
 replace hf7_3 := hf7_3.ro (plain_int _) (pick_out hms 0 rfl [some 1, some 2] [[b0_3], M] rfl rfl)
 replace hms := hpk
 replace hfr : FR w.heap.size [[b0_3]] := hfr.pick [some 1] _ rfl
 clear hpk hsu
 refine x_u 7 [(22, .tuple #[Vl a0_7 x6.1 c0_7, Vl a2_7 x6.2.1 c2_7, Vl a4_7 x6.2.2.1 c4_7]), (25, Vl a0_7 x6.1 c0_7), (26, Vl a2_7 x6.2.1 c2_7), (27, Vl a4_7 x6.2.2.1 c4_7), (4, Vl a0_7 x6.1 c0_7), (5, Vl a2_7 x6.2.1 c2_7), (6, Vl a4_7 x6.2.2.1 c4_7)] ?_
 refine x_ek ?_
 refine c_sp ?_
 refine x_u 1 [(7, .slice none 0 0)] ?_
 refine x_ek ?_
 refine c_norm [(3, Vp b0_3 0), (4, Vl a0_7 x6.1 c0_7), (5, Vl a2_7 x6.2.1 c2_7), (6, Vl a4_7 x6.2.2.1 c4_7), (7, .slice none 0 0)] ⟨rfl, rfl, rfl, rfl, rfl, trivial⟩ (fun J => ?_)
 refine c_sp ?_
 refine x_u 2 [(28, Vl a4_7 x6.2.2.1 c4_7), (8, Vl a4_7 x6.2.2.1 c4_7)] ?_
 refine x_ek ?_
 refine c_seq ?_
 refine c_sp ?_
 refine x_u 1 [(29, Vp b0_3 0)] ?_
 obtain ⟨x12, hx, h⟩ := bind_some h
 have hpk : MS w7 ([[b0_3]] ++ [M]) := hms.pick [some 0, some 1] _ rfl
 have hsb0 : ∀ x ∈ fl ([[b0_3]] ++ [M]), x ∈ fl [[b0_3], M] := pick_sub [some 0, some 1] _ rfl
 have hsb : ∀ x ∈ fl ([[b0_3]] ++ [(fl [M])]), x ∈ fl [[b0_3], M] := fun x hx => hsb0 x (fl_unfold x hx)
 have hcall := gen_Maker_Next_w b0_3 a1_3 c1_3 x2.1 x6.2.2.2 10 _ w7 (fl [M]) (hpk.fold (P := [[b0_3]])) (hf3_2.sub hsb) hf3_1 hx
 refine x_call 14 #[] #[] [Vp b0_3 0, Vi 10] _ rfl rfl rfl rfl hcall ?_
 rintro v w13 ⟨rfl, he13, hp13_0⟩
 clear hcall hx
 refine inl1 ?_
 have hpk2 : MS w7 ([[b0_3]] ++ [M]) := hms.pick [some 0, some 1] _ rfl
 have hsb2 : ∀ x ∈ fl ([[b0_3]] ++ [M]), x ∈ fl [[b0_3], M] := pick_sub [some 0, some 1] _ rfl
 have hst0 := Stp.call (LS := [[b0_3], M]) (res := []) (par := [[b0_3]]) (R := [M]) he13 (fun b hb => hsb2 b (fl_left' (P := [[b0_3]]) b hb)) (FR.nil _) (NP.init _ _) (fun x hx => hsb2 x (fl_right' (P := [[b0_3]]) x hx))
 have hsn : ∀ x ∈ fl [[b0_3], M], x ∈ fl ([] ++ ([[b0_3]] ++ [M])) := pick_sub [some 0, some 1] _ rfl
 have hst := hst0.res hsn
 replace hf3_2 := hf3_2.step hst
 replace hf7_1 := hf7_1.step hst
 replace hf7_2 := hf7_2.step hst
 replace hf7_3 := hf7_3.step hst
 replace hms := hms.ev he13
 have hPf : ∀ b ∈ fl [[b0_3]], w.heap.size ≤ b := FR.mem (ls := [[b0_3]]) (hfr.pick [some 0] _ rfl)
 replace hev := hev.then he13 (fun b hb => .inr (hPf b hb))
 replace hf3_1 := hp13_0
 clear hpk hsb hsb0 hpk2 hsb2 hst0 hsn hst
 refine x_u 1 [(9, Vi x12.1)] ?_
 refine x_ek ?_
 refine c_block ?_
 have hst := Stp.push (ls := [[b0_3], M]) (l := blk none) (Ev.refl [] w13) (fun _ h => by cases h) (fun _ h => by cases h)
 replace hf3_1 := (Ev.refl [] _).box hf3_1 nn
 replace hf3_2 := hf3_2.step hst
 replace hf7_1 := hf7_1.step hst
 replace hf7_2 := hf7_2.step hst
 replace hf7_3 := hf7_3.step hst
 replace hms := hms.push (l := blk none) (Ev.refl [] _) (fun _ h => by cases h)
 replace hfr := hfr.push (l := blk none) (fun _ h => by cases h)
 have ho15 := OwnS.nil (eProd (eInt .i64) (eProd (eInt .i64) (eProd (eInt .i64) eBool))) 30 w13 (fl [blk none, [b0_3], M])
 have hpk : MS w13 [[b0_3], blk none, M] := hms.pick [some 1, some 0, some 2] _ rfl
 have hsu : ∀ x ∈ fl [[b0_3], blk none, M], x ∈ fl [blk none, [b0_3], M] := pick_sub [some 1, some 0, some 2] _ rfl
 replace hf3_2 := hf3_2.sub hsu
 replace hf7_1 := hf7_1.sub hsu
 replace hf7_2 := hf7_2.sub hsu
 replace hf7_3 := hf7_3.sub hsu
 replace ho15 := ho15.sub hsu
 replace hms := hpk
 replace hfr : FR w.heap.size [[b0_3], blk none] := hfr.pick [some 1, some 0] _ rfl
 clear hpk hsu
 obtain ⟨d14, hd14, h14⟩ := bind_some h
 obtain ⟨m14, hd14⟩ := loop_some hd14
 refine c_loop (loop_rule hmx (σ := Nat × Int × (List (Int × Int × Int × Bool)) × (List (List Int)) × Int × Option Addr × Nat × Option Addr × Nat) (fun s => match s with | (_, e4_l14_1, d16_l14, d17_l14, i_s9_l14, a16_l14, c16_l14, a17_l14, c17_l14) => [(3, Vp b0_3 0), (4, Vl a0_7 x6.1 c0_7), (5, Vl a2_7 x6.2.1 c2_7), (6, Vl a4_7 x6.2.2.1 c4_7), (7, Vl a16_l14 d16_l14 c16_l14), (8, Vl a17_l14 d17_l14 c17_l14), (9, Vi i_s9_l14)]) (fun s w' => match s with | (m, e4_l14_1, d16_l14, d17_l14, i_s9_l14, a16_l14, c16_l14, a17_l14, c17_l14) => loopN (law42_InventoryRuns_L14 x2 x6) m (e4_l14_1, d16_l14, d17_l14, i_s9_l14) = some d14 ∧ Ev [] w w' ∧ MS w' [[b0_3], blk a16_l14, M] ∧ FR w.heap.size [[b0_3], blk a16_l14] ∧ SlR (eInt .i64) w' (fl [[b0_3], blk a16_l14, M]) a1_3 c1_3 x2.1 ∧ w'.heap[b0_3]? = some (.cells #[Vl a1_3 x2.1 c1_3, Vi e4_l14_1] 52 (0, 0)) ∧ SlR (eProd eStr (eInt .i64)) w' (fl [[b0_3], blk a16_l14, M]) a0_7 c0_7 x6.1 ∧ SlR (eInt .i64) w' (fl [[b0_3], blk a16_l14, M]) a2_7 c2_7 x6.2.1 ∧ SlR (eSl (eInt .i64)) w' (fl [[b0_3], blk a16_l14, M]) a4_7 c4_7 x6.2.2.1 ∧ OwnS (eProd (eInt .i64) (eProd (eInt .i64) (eProd (eInt .i64) eBool))) 30 w' (fl [[b0_3], blk a16_l14, M]) a16_l14 c16_l14 d16_l14 ∧ SlR (eSl (eInt .i64)) w' (fl [[b0_3], blk a16_l14, M]) a17_l14 c17_l14 d17_l14) (fun s => s.1) (m14, x12.2, ([] : List (Int × Int × Int × Bool)), x6.2.2.1, x12.1, none, 0, a4_7, c4_7) ⟨rfl, rfl, rfl, rfl, rfl, rfl, rfl, trivial⟩ ⟨hd14, hev, hms, hfr, hf3_2, hf3_1, hf7_1, hf7_2, hf7_3, ho15, hf7_3⟩ ?_)
 rintro ⟨m14, e4_l14_1, d16_l14, d17_l14, i_s9_l14, a16_l14, c16_l14, a17_l14, c17_l14⟩ J wl14 ⟨hn14, hev, hms, hfr, hf3_2, hf3_1, hf7_1, hf7_2, hf7_3, hj16_l14, hj17_l14⟩
 rcases m14 with _ | m14
 · exact (loopN_zero hn14).elim
 obtain ⟨t14, h, hn14⟩ := bind_some hn14
 refine c_seq ?_
 refine c_sp ?_
 refine x_u 2 [(31, Vi i_s9_l14), (32, .bool (decide (i_s9_l14 > 0)))] ?_
 refine x_ek ?_
 refine c_norm [(3, Vp b0_3 0), (4, Vl a0_7 x6.1 c0_7), (5, Vl a2_7 x6.2.1 c2_7), (6, Vl a4_7 x6.2.2.1 c4_7), (7, Vl a16_l14 d16_l14 c16_l14), (8, Vl a17_l14 d17_l14 c17_l14), (9, Vi i_s9_l14), (32, .bool (decide (i_s9_l14 > 0)))] ⟨rfl, rfl, rfl, rfl, rfl, rfl, rfl, rfl, trivial⟩ (fun J => ?_)
 refine c_if (decide (i_s9_l14 > 0)) rfl h (fun h => ?_) (fun h => ?_)
 · refine c_skip ?_
   refine k_then ?_
   refine c_seq ?_
   refine c_block ?_
   refine c_sp ?_
   refine x_u 3 [(35, Vp b0_3 0), (36, Vl a2_7 x6.2.1 c2_7), (37, Vl a17_l14 d17_l14 c17_l14)] ?_
   obtain ⟨x19, hx, h⟩ := bind_some h
   have hpk : MS wl14 ([[b0_3]] ++ [blk a16_l14, M]) := hms.pick [some 0, some 1, some 2] _ rfl
   have hsb0 : ∀ x ∈ fl ([[b0_3]] ++ [blk a16_l14, M]), x ∈ fl [[b0_3], blk a16_l14, M] := pick_sub [some 0, some 1, some 2] _ rfl
   have hsb : ∀ x ∈ fl ([[b0_3]] ++ [(fl [blk a16_l14, M])]), x ∈ fl [[b0_3], blk a16_l14, M] := fun x hx => hsb0 x (fl_unfold x hx)
   have hcall := law42_shift_w b0_3 a1_3 c1_3 x2.1 e4_l14_1 a2_7 c2_7 x6.2.1 a17_l14 c17_l14 d17_l14 _ wl14 (fl [blk a16_l14, M]) (hpk.fold (P := [[b0_3]])) (hf3_2.sub hsb) hf3_1 (hf7_2.sub hsb) (hj17_l14.sub hsb) hx
   refine x_call 8 #[] #[] [Vp b0_3 0, Vl a2_7 x6.2.1 c2_7, Vl a17_l14 d17_l14 c17_l14] _ rfl rfl rfl rfl hcall ?_
   rintro v w20 ⟨rfl, he20, hp20_0⟩
   clear hcall hx
   refine inl1 ?_
   have hpk2 : MS wl14 ([[b0_3]] ++ [blk a16_l14, M]) := hms.pick [some 0, some 1, some 2] _ rfl
   have hsb2 : ∀ x ∈ fl ([[b0_3]] ++ [blk a16_l14, M]), x ∈ fl [[b0_3], blk a16_l14, M] := pick_sub [some 0, some 1, some 2] _ rfl
   have hst0 := Stp.call (LS := [[b0_3], blk a16_l14, M]) (res := []) (par := [[b0_3]]) (R := [blk a16_l14, M]) he20 (fun b hb => hsb2 b (fl_left' (P := [[b0_3]]) b hb)) (FR.nil _) (NP.init _ _) (fun x hx => hsb2 x (fl_right' (P := [[b0_3]]) x hx))
   have hsn : ∀ x ∈ fl [[b0_3], blk a16_l14, M], x ∈ fl ([] ++ ([[b0_3]] ++ [blk a16_l14, M])) := pick_sub [some 0, some 1, some 2] _ rfl
   have hst := hst0.res hsn
   replace hf3_2 := hf3_2.step hst
   replace hf7_1 := hf7_1.step hst
   replace hf7_2 := hf7_2.step hst
   replace hf7_3 := hf7_3.step hst
   replace hj16_l14 := hj16_l14.step hst he20 (MS.outs (P := [[b0_3]]) hpk2 0 rfl)
   replace hj17_l14 := hj17_l14.step hst
   replace hms := hms.ev he20
   have hPf : ∀ b ∈ fl [[b0_3]], w.heap.size ≤ b := FR.mem (ls := [[b0_3]]) (hfr.pick [some 0] _ rfl)
   replace hev := hev.then he20 (fun b hb => .inr (hPf b hb))
   replace hf3_1 := hp20_0
   clear hpk hsb hsb0 hpk2 hsb2 hst0 hsn hst
   refine x_alloc (z := .agg #[Vi 0, Vi 0, Vi 0, .bool false]) rfl rfl (by kernel_rfl) (fun b21 w21 hq21 hb21 he21 hz21 => ?_)
   replace hb21 : w21.heap[b21]? = some (.cells #[Vi 0, Vi 0, Vi 0, .bool false] 30 (0, 0)) := hb21
   refine inl1 ?_
   have hst := Stp.box (ls := [[b0_3], blk a16_l14, M]) he21 hq21
   replace hf3_1 := he21.box hf3_1 nn
   replace hf3_2 := hf3_2.step hst
   replace hf7_1 := hf7_1.step hst
   replace hf7_2 := hf7_2.step hst
   replace hf7_3 := hf7_3.step hst
   replace hj16_l14 := hj16_l14.step hst he21 nn2
   replace hj17_l14 := hj17_l14.step hst
   replace hms := hms.box he21 hq21 hb21
   replace hfr := hfr.box hev.size hq21
   replace hev := hev.ext he21
   obtain ⟨w23, hr23, hb23, he23⟩ := store_boxagg 0 [Vi x19.1.1, Vi x19.1.2.1, Vi x19.1.2.2.1, .bool x19.1.2.2.2] #[Vi x19.1.1, Vi x19.1.2.1, Vi x19.1.2.2.1, .bool x19.1.2.2.2] tagg30 hb21 rfl rfl rfl
   refine x_store w23 (xv := Vp b21 0) (yv := .agg #[Vi x19.1.1, Vi x19.1.2.1, Vi x19.1.2.2.1, .bool x19.1.2.2.2]) rfl rfl rfl rfl hr23 ?_
   refine inl1 ?_
   have hst := Stp.ev' (ls := [[b21], [b0_3], blk a16_l14, M]) he23 (mem_flat 0 rfl)
   replace hf3_1 := he23.box hf3_1 (hms.apart 1 0 rfl rfl rfl _ mem1)
   replace hf3_2 := hf3_2.step hst
   replace hf7_1 := hf7_1.step hst
   replace hf7_2 := hf7_2.step hst
   replace hf7_3 := hf7_3.step hst
   replace hj16_l14 := hj16_l14.step hst he23 (hms.apart 2 0 rfl rfl rfl)
   replace hj17_l14 := hj17_l14.step hst
   replace hms := hms.ev he23
   replace hev := hev.then he23 (fun b hb => .inr (hfr.at 0 rfl b hb))
   replace hb21 := hb23
   refine x_ek ?_
   refine c_seq ?_
   refine c_sp ?_
   refine x_u 3 [(40, Vl a0_7 x6.1 c0_7), (41, Vl a2_7 x6.2.1 c2_7), (42, Vl a17_l14 d17_l14 c17_l14)] ?_
   refine x_load (xv := Vp b21 0) (.agg #[Vi x19.1.1, Vi x19.1.2.1, Vi x19.1.2.2.1, .bool x19.1.2.2.2]) rfl rfl rfl (reads_boxagg 0 [Vi x19.1.1, Vi x19.1.2.1, Vi x19.1.2.2.1, .bool x19.1.2.2.2] tagg30 hb21 nn rfl) ?_
   obtain ⟨x24, hx, h⟩ := bind_some h
   have hpk : MS w23 ([] ++ [[b21], [b0_3], blk a16_l14, M]) := hms.pick [some 0, some 1, some 2, some 3] _ rfl
   have hsb0 : ∀ x ∈ fl ([] ++ [[b21], [b0_3], blk a16_l14, M]), x ∈ fl [[b21], [b0_3], blk a16_l14, M] := pick_sub [some 0, some 1, some 2, some 3] _ rfl
   have hsb : ∀ x ∈ fl ([] ++ [(fl [[b21], [b0_3], blk a16_l14, M])]), x ∈ fl [[b21], [b0_3], blk a16_l14, M] := fun x hx => hsb0 x (fl_unfold x hx)
   have hcall := r42_Apply_w a0_7 c0_7 x6.1 a2_7 c2_7 x6.2.1 a17_l14 c17_l14 d17_l14 x19.1.1 x19.1.2.1 x19.1.2.2.1 x19.1.2.2.2 _ w23 (fl [[b21], [b0_3], blk a16_l14, M]) (MS.fold (P := []) hpk) (hf7_1.sub hsb) (hf7_2.sub hsb) (hj17_l14.sub hsb) hx
   refine x_call 17 #[] #[] [Vl a0_7 x6.1 c0_7, Vl a2_7 x6.2.1 c2_7, Vl a17_l14 d17_l14 c17_l14, .agg #[Vi x19.1.1, Vi x19.1.2.1, Vi x19.1.2.2.1, .bool x19.1.2.2.2]] _ rfl rfl rfl rfl hcall ?_
   rintro v w25 ⟨a0_25, c0_25, B2_25, rfl, he25, hmn25, hfn25, hf25_1⟩
   clear hcall hx
   refine inl1 ?_
   have hpk2 : MS w23 ([] ++ [[b21], [b0_3], blk a16_l14, M]) := hms.pick [some 0, some 1, some 2, some 3] _ rfl
   have hsb2 : ∀ x ∈ fl ([] ++ [[b21], [b0_3], blk a16_l14, M]), x ∈ fl [[b21], [b0_3], blk a16_l14, M] := pick_sub [some 0, some 1, some 2, some 3] _ rfl
   have hst0 := Stp.call (LS := [[b21], [b0_3], blk a16_l14, M]) (res := [B2_25]) (par := []) (R := [[b21], [b0_3], blk a16_l14, M]) he25 (fun b hb => hsb2 b (fl_left' (P := []) b hb)) hfn25 (NP.init _ _) (fun x hx => hsb2 x (fl_right' (P := []) x hx))
   have hsn : ∀ x ∈ fl [B2_25, [b21], [b0_3], blk a16_l14, M], x ∈ fl ([B2_25] ++ ([] ++ [[b21], [b0_3], blk a16_l14, M])) := pick_sub [some 0, some 1, some 2, some 3, some 4] _ rfl
   have hst := hst0.res hsn
   replace hf3_1 := he25.box hf3_1 ((MS.outs (P := []) hpk2 1 rfl) _ mem1)
   replace hf3_2 := hf3_2.step hst
   replace hf7_1 := hf7_1.step hst
   replace hf7_2 := hf7_2.step hst
   replace hf7_3 := hf7_3.step hst
   replace hj16_l14 := hj16_l14.step hst he25 (MS.outs (P := []) hpk2 2 rfl)
   replace hj17_l14 := hj17_l14.step hst
   replace hb21 := he25.box hb21 ((MS.outs (P := []) hpk2 0 rfl) _ mem1)
   replace hms : MS w25 [B2_25, [b21], [b0_3], blk a16_l14, M] := (MS.call (P := []) (R := [[b21], [b0_3], blk a16_l14, M]) (res := [B2_25]) (par := []) hpk2 he25 hmn25 hfn25 (NP.init _ _)).pick [some 0, some 1, some 2, some 3, some 4] _ rfl
   have hfr2 : FR w.heap.size [B2_25, [b21], [b0_3], blk a16_l14] := (FR.cons (fun b hb => Nat.le_trans hev.size (hfn25.at 0 rfl b hb)) (FR.cons (hfr.at 0 rfl) (FR.cons (hfr.at 1 rfl) (FR.cons (hfr.at 2 rfl) (FR.nil _)))))
   replace hev := hev.ext he25
   replace hfr := hfr2
   clear hfr2
   clear hpk hsb hsb0 hpk2 hsb2 hst0 hsn hst
   have hpk : MS w25 [[b21], [b0_3], blk a16_l14, M] := hms.pick [some 1, some 2, some 3, some 4] _ rfl
   have hsu : ∀ x ∈ fl [[b21], [b0_3], blk a16_l14, M], x ∈ fl [B2_25, [b21], [b0_3], blk a16_l14, M] := pick_sub [some 1, some 2, some 3, some 4] _ rfl
   replace hf3_2 := hf3_2.sub hsu
   replace hf7_1 := hf7_1.sub hsu
   replace hf7_2 := hf7_2.sub hsu
   replace hf7_3 := hf7_3.sub hsu
   replace hj16_l14 := hj16_l14.sub hsu
   replace hj17_l14 := hj17_l14.sub hsu
   replace hf25_1 := hf25_1.ro (plain_int _) (pick_out hms 0 rfl [some 1, some 2, some 3, some 4] [[b21], [b0_3], blk a16_l14, M] rfl rfl)
   replace hms := hpk
   replace hfr : FR w.heap.size [[b21], [b0_3], blk a16_l14] := hfr.pick [some 1, some 2, some 3] _ rfl
   clear hpk hsu
   refine x_u 5 [(39, .tuple #[Vl a0_25 x24.1 c0_25, Vi x24.2]), (45, Vl a0_25 x24.1 c0_25), (46, Vi x24.2), (11, Vl a0_25 x24.1 c0_25), (12, Vi x24.2)] ?_
   refine x_ek ?_
   refine c_norm [(3, Vp b0_3 0), (4, Vl a0_7 x6.1 c0_7), (5, Vl a2_7 x6.2.1 c2_7), (6, Vl a4_7 x6.2.2.1 c4_7), (7, Vl a16_l14 d16_l14 c16_l14), (8, Vl a17_l14 d17_l14 c17_l14), (9, Vi i_s9_l14), (10, Vp b21 0), (11, Vl a0_25 x24.1 c0_25), (12, Vi x24.2)] ⟨rfl, rfl, rfl, rfl, rfl, rfl, rfl, rfl, rfl, rfl, trivial⟩ (fun J => ?_)
   refine c_sp ?_
   refine x_u 2 [(47, Vi x24.2), (48, .bool (x24.2 == 0))] ?_
   refine x_ek ?_
   refine c_if (x24.2 == 0) rfl h (fun h => ?_) (fun h => ?_)
   · refine c_plain ?_
     refine x_u 2 [(49, Vl a0_25 x24.1 c0_25), (8, Vl a0_25 x24.1 c0_25)] ?_
     refine x_ek ?_
     refine c_plain ?_
     refine x_u 1 [(53, Vl a16_l14 d16_l14 c16_l14)] ?_
     refine x_load (xv := Vp b21 0) (.agg #[Vi x19.1.1, Vi x19.1.2.1, Vi x19.1.2.2.1, .bool x19.1.2.2.2]) rfl rfl rfl (reads_boxagg 0 [Vi x19.1.1, Vi x19.1.2.1, Vi x19.1.2.2.1, .bool x19.1.2.2.2] tagg30 hb21 nn rfl) ?_
     refine x_buildSlice (vs := [(0, .agg #[Vi x19.1.1, Vi x19.1.2.1, Vi x19.1.2.2.1, .bool x19.1.2.2.2])]) #[Vi x19.1.1, Vi x19.1.2.1, Vi x19.1.2.2.1, .bool x19.1.2.2.2] 30 rfl rfl rfl (by kernel_rfl) (fun b27 w27 hq27 hb27 he27 hz27 => ?_)
     refine inl1 ?_
     have hms0 := hms
     have hst := Stp.ext (ls := [[b21], [b0_3], blk a16_l14, M]) he27
     replace hf3_1 := he27.box hf3_1 nn
     replace hf3_2 := hf3_2.step hst
     replace hf7_1 := hf7_1.step hst
     replace hf7_2 := hf7_2.step hst
     replace hf7_3 := hf7_3.step hst
     replace hj16_l14 := hj16_l14.step hst he27 nn2
     replace hb21 := he27.box hb21 nn
     replace hf25_1 := hf25_1.step hst
     replace hms := hms.ev he27
     replace hev := hev.ext he27
     have hs27 : SlR (eProd (eInt .i64) (eProd (eInt .i64) (eProd (eInt .i64) eBool))) w27 (fl [[b21], [b0_3], blk a16_l14, M]) (Ad b27 0) 1 ([(x19.1.1, x19.1.2.1, x19.1.2.2.1, x19.1.2.2.2)] : List (Int × Int × Int × Bool)) := ro_of_box hms0 hq27 hb27 rfl rfl (cells_at (cs := [Vi x19.1.1, Vi x19.1.2.1, Vi x19.1.2.2.1, .bool x19.1.2.2.2]) (CellsOf.cons (c := [Vi x19.1.1, Vi x19.1.2.1, Vi x19.1.2.2.1, .bool x19.1.2.2.2]) ⟨[Vi x19.1.1], [Vi x19.1.2.1, Vi x19.1.2.2.1, .bool x19.1.2.2.2], rfl, rfl, ⟨[Vi x19.1.2.1], [Vi x19.1.2.2.1, .bool x19.1.2.2.2], rfl, rfl, ⟨[Vi x19.1.2.2.1], [.bool x19.1.2.2.2], rfl, rfl, rfl⟩⟩⟩ CellsOf.nil))
     clear hb27 hms0
     have hg := guard_l h
     replace h := guard_r h
     obtain ⟨a29, c29, w29, hr29, he29, hn29, hm29, hw29⟩ := own_appendN tel41 41 hj16_l14 (mem_flat 2 rfl) hs27 hg
     refine x_builtin (vs := [Vl a16_l14 d16_l14 c16_l14, .slice (Ad b27 0) (([(x19.1.1, x19.1.2.1, x19.1.2.2.1, x19.1.2.2.2)] : List (Int × Int × Int × Bool))).length 1]) _ w29 rfl rfl rfl rfl (run_value _ _ _ _ hr29) ?_
     refine inl1 ?_
     have hst : Stp (fl [[b21], [b0_3], blk a16_l14, M]) w27 (fl [[b21], [b0_3], blk a29, M]) w29 := Stp.upd 2 he29 rfl (fun b hb => (hn29 b hb).1)
     replace hf3_1 := he29.box hf3_1 (hms.apart 1 2 rfl rfl rfl _ mem1)
     replace hf3_2 := hf3_2.step hst
     replace hf7_1 := hf7_1.step hst
     replace hf7_2 := hf7_2.step hst
     replace hf7_3 := hf7_3.step hst
     replace hb21 := he29.box hb21 (hms.apart 0 2 rfl rfl rfl _ mem1)
     replace hf25_1 := hf25_1.step hst
     replace hs27 := hs27.step hst
     replace hms : MS w29 [[b21], [b0_3], blk a29, M] := hms.upd 2 he29 rfl hn29
     have hfr2 : FR w.heap.size [[b21], [b0_3], blk a29] := hfr.upd 2 rfl hev.size (fun b hb => (hn29 b hb).1)
     replace hev := hev.then he29 (fun b hb => .inr (hfr.at 2 rfl b hb))
     replace hfr := hfr2
     clear hfr2
     replace hj16_l14 := hw29 (fl [[b21], [b0_3], blk a29, M]) hst.new
     clear hw29
     refine x_u 1 [(7, .slice a29 ((d16_l14 ++ ([(x19.1.1, x19.1.2.1, x19.1.2.2.1, x19.1.2.2.2)] : List (Int × Int × Int × Bool)))).length c29)] ?_
     refine x_end rfl ?_
     refine k_block ?_
     refine k_then ?_
     refine c_plain ?_
     refine x_u 3 [(33, Vi i_s9_l14), (34, Vi (IntKind.i64.wrap (i_s9_l14 - 1))), (9, Vi (IntKind.i64.wrap (i_s9_l14 - 1)))] ?_
     refine x_end rfl ?_
     have hx := some_inj h
     subst hx
     have hpk : MS w29 [[b0_3], blk a29, M] := hms.pick [some 1, some 2, some 3] _ rfl
     have hsu : ∀ x ∈ fl [[b0_3], blk a29, M], x ∈ fl [[b21], [b0_3], blk a29, M] := pick_sub [some 1, some 2, some 3] _ rfl
     replace hf3_2 := hf3_2.sub hsu
     replace hf7_1 := hf7_1.sub hsu
     replace hf7_2 := hf7_2.sub hsu
     replace hf7_3 := hf7_3.sub hsu
     replace hj16_l14 := hj16_l14.sub hsu
     replace hf25_1 := hf25_1.sub hsu
     replace hms := hpk
     replace hfr : FR w.heap.size [[b0_3], blk a29] := hfr.pick [some 1, some 2] _ rfl
     clear hpk hsu
     exact k_then ⟨(m14, x19.2, (d16_l14 ++ ([(x19.1.1, x19.1.2.1, x19.1.2.2.1, x19.1.2.2.2)] : List (Int × Int × Int × Bool))), x24.1, IntKind.i64.wrap (i_s9_l14 - 1), a29, c29, a0_25, c0_25), ⟨rfl, rfl, rfl, rfl, rfl, rfl, rfl, trivial⟩, ⟨hn14, hev, hms, hfr, hf3_2, hf3_1, hf7_1, hf7_2, hf7_3, hj16_l14, hf25_1⟩, Nat.lt_succ_self _⟩
   refine c_sp ?_
   refine x_u 1 [(50, Vp b0_3 0)] ?_
   obtain ⟨x30, hx, h⟩ := bind_some h
   have hpk : MS w25 ([[b0_3]] ++ [[b21], blk a16_l14, M]) := hms.pick [some 1, some 0, some 2, some 3] _ rfl
   have hsb0 : ∀ x ∈ fl ([[b0_3]] ++ [[b21], blk a16_l14, M]), x ∈ fl [[b21], [b0_3], blk a16_l14, M] := pick_sub [some 1, some 0, some 2, some 3] _ rfl
   have hsb : ∀ x ∈ fl ([[b0_3]] ++ [(fl [[b21], blk a16_l14, M])]), x ∈ fl [[b21], [b0_3], blk a16_l14, M] := fun x hx => hsb0 x (fl_unfold x hx)
   have hcall := gen_Maker_Next_w b0_3 a1_3 c1_3 x2.1 x19.2 4 _ w25 (fl [[b21], blk a16_l14, M]) (hpk.fold (P := [[b0_3]])) (hf3_2.sub hsb) hf3_1 hx
   refine x_call 14 #[] #[] [Vp b0_3 0, Vi 4] _ rfl rfl rfl rfl hcall ?_
   rintro v w31 ⟨rfl, he31, hp31_0⟩
   clear hcall hx
   refine inl1 ?_
   have hpk2 : MS w25 ([[b0_3]] ++ [[b21], blk a16_l14, M]) := hms.pick [some 1, some 0, some 2, some 3] _ rfl
   have hsb2 : ∀ x ∈ fl ([[b0_3]] ++ [[b21], blk a16_l14, M]), x ∈ fl [[b21], [b0_3], blk a16_l14, M] := pick_sub [some 1, some 0, some 2, some 3] _ rfl
   have hst0 := Stp.call (LS := [[b21], [b0_3], blk a16_l14, M]) (res := []) (par := [[b0_3]]) (R := [[b21], blk a16_l14, M]) he31 (fun b hb => hsb2 b (fl_left' (P := [[b0_3]]) b hb)) (FR.nil _) (NP.init _ _) (fun x hx => hsb2 x (fl_right' (P := [[b0_3]]) x hx))
   have hsn : ∀ x ∈ fl [[b21], [b0_3], blk a16_l14, M], x ∈ fl ([] ++ ([[b0_3]] ++ [[b21], blk a16_l14, M])) := pick_sub [some 1, some 0, some 2, some 3] _ rfl
   have hst := hst0.res hsn
   replace hf3_2 := hf3_2.step hst
   replace hf7_1 := hf7_1.step hst
   replace hf7_2 := hf7_2.step hst
   replace hf7_3 := hf7_3.step hst
   replace hj16_l14 := hj16_l14.step hst he31 (MS.outs (P := [[b0_3]]) hpk2 1 rfl)
   replace hj17_l14 := hj17_l14.step hst
   replace hb21 := he31.box hb21 ((MS.outs (P := [[b0_3]]) hpk2 0 rfl) _ mem1)
   replace hf25_1 := hf25_1.step hst
   replace hms := hms.ev he31
   have hPf : ∀ b ∈ fl [[b0_3]], w.heap.size ≤ b := FR.mem (ls := [[b0_3]]) (hfr.pick [some 1] _ rfl)
   replace hev := hev.then he31 (fun b hb => .inr (hPf b hb))
   replace hf3_1 := hp31_0
   clear hpk hsb hsb0 hpk2 hsb2 hst0 hsn hst
   refine x_u 1 [(52, .bool (decide (x30.1 > 0)))] ?_
   refine x_ek ?_
   refine c_if (decide (x30.1 > 0)) rfl h (fun h => ?_) (fun h => ?_)
   · refine c_exit ?_
     refine k_then_exit ?_
     refine k_block_in ?_
     refine k_then ?_
     refine c_plain ?_
     refine x_u 3 [(33, Vi i_s9_l14), (34, Vi (IntKind.i64.wrap (i_s9_l14 - 1))), (9, Vi (IntKind.i64.wrap (i_s9_l14 - 1)))] ?_
     refine x_end rfl ?_
     have hx := some_inj h
     subst hx
     have hpk : MS w31 [[b0_3], blk a16_l14, M] := hms.pick [some 1, some 2, some 3] _ rfl
     have hsu : ∀ x ∈ fl [[b0_3], blk a16_l14, M], x ∈ fl [[b21], [b0_3], blk a16_l14, M] := pick_sub [some 1, some 2, some 3] _ rfl
     replace hf3_2 := hf3_2.sub hsu
     replace hf7_1 := hf7_1.sub hsu
     replace hf7_2 := hf7_2.sub hsu
     replace hf7_3 := hf7_3.sub hsu
     replace hj16_l14 := hj16_l14.sub hsu
     replace hj17_l14 := hj17_l14.sub hsu
     replace hms := hpk
     replace hfr : FR w.heap.size [[b0_3], blk a16_l14] := hfr.pick [some 1, some 2] _ rfl
     clear hpk hsu
     exact k_then ⟨(m14, x30.2, d16_l14, d17_l14, IntKind.i64.wrap (i_s9_l14 - 1), a16_l14, c16_l14, a17_l14, c17_l14), ⟨rfl, rfl, rfl, rfl, rfl, rfl, rfl, trivial⟩, ⟨hn14, hev, hms, hfr, hf3_2, hf3_1, hf7_1, hf7_2, hf7_3, hj16_l14, hj17_l14⟩, Nat.lt_succ_self _⟩
   refine c_skip ?_
   refine k_then ?_
   refine c_plain ?_
   refine x_u 1 [(53, Vl a16_l14 d16_l14 c16_l14)] ?_
   refine x_load (xv := Vp b21 0) (.agg #[Vi x19.1.1, Vi x19.1.2.1, Vi x19.1.2.2.1, .bool x19.1.2.2.2]) rfl rfl rfl (reads_boxagg 0 [Vi x19.1.1, Vi x19.1.2.1, Vi x19.1.2.2.1, .bool x19.1.2.2.2] tagg30 hb21 nn rfl) ?_
   refine x_buildSlice (vs := [(0, .agg #[Vi x19.1.1, Vi x19.1.2.1, Vi x19.1.2.2.1, .bool x19.1.2.2.2])]) #[Vi x19.1.1, Vi x19.1.2.1, Vi x19.1.2.2.1, .bool x19.1.2.2.2] 30 rfl rfl rfl (by kernel_rfl) (fun b32 w32 hq32 hb32 he32 hz32 => ?_)
   refine inl1 ?_
   have hms0 := hms
   have hst := Stp.ext (ls := [[b21], [b0_3], blk a16_l14, M]) he32
   replace hf3_1 := he32.box hf3_1 nn
   replace hf3_2 := hf3_2.step hst
   replace hf7_1 := hf7_1.step hst
   replace hf7_2 := hf7_2.step hst
   replace hf7_3 := hf7_3.step hst
   replace hj16_l14 := hj16_l14.step hst he32 nn2
   replace hj17_l14 := hj17_l14.step hst
   replace hb21 := he32.box hb21 nn
   replace hms := hms.ev he32
   replace hev := hev.ext he32
   have hs32 : SlR (eProd (eInt .i64) (eProd (eInt .i64) (eProd (eInt .i64) eBool))) w32 (fl [[b21], [b0_3], blk a16_l14, M]) (Ad b32 0) 1 ([(x19.1.1, x19.1.2.1, x19.1.2.2.1, x19.1.2.2.2)] : List (Int × Int × Int × Bool)) := ro_of_box hms0 hq32 hb32 rfl rfl (cells_at (cs := [Vi x19.1.1, Vi x19.1.2.1, Vi x19.1.2.2.1, .bool x19.1.2.2.2]) (CellsOf.cons (c := [Vi x19.1.1, Vi x19.1.2.1, Vi x19.1.2.2.1, .bool x19.1.2.2.2]) ⟨[Vi x19.1.1], [Vi x19.1.2.1, Vi x19.1.2.2.1, .bool x19.1.2.2.2], rfl, rfl, ⟨[Vi x19.1.2.1], [Vi x19.1.2.2.1, .bool x19.1.2.2.2], rfl, rfl, ⟨[Vi x19.1.2.2.1], [.bool x19.1.2.2.2], rfl, rfl, rfl⟩⟩⟩ CellsOf.nil))
   clear hb32 hms0
   have hg := guard_l h
   replace h := guard_r h
   obtain ⟨a34, c34, w34, hr34, he34, hn34, hm34, hw34⟩ := own_appendN tel41 41 hj16_l14 (mem_flat 2 rfl) hs32 hg
   refine x_builtin (vs := [Vl a16_l14 d16_l14 c16_l14, .slice (Ad b32 0) (([(x19.1.1, x19.1.2.1, x19.1.2.2.1, x19.1.2.2.2)] : List (Int × Int × Int × Bool))).length 1]) _ w34 rfl rfl rfl rfl (run_value _ _ _ _ hr34) ?_
   refine inl1 ?_
   have hst : Stp (fl [[b21], [b0_3], blk a16_l14, M]) w32 (fl [[b21], [b0_3], blk a34, M]) w34 := Stp.upd 2 he34 rfl (fun b hb => (hn34 b hb).1)
   replace hf3_1 := he34.box hf3_1 (hms.apart 1 2 rfl rfl rfl _ mem1)
   replace hf3_2 := hf3_2.step hst
   replace hf7_1 := hf7_1.step hst
   replace hf7_2 := hf7_2.step hst
   replace hf7_3 := hf7_3.step hst
   replace hj17_l14 := hj17_l14.step hst
   replace hb21 := he34.box hb21 (hms.apart 0 2 rfl rfl rfl _ mem1)
   replace hs32 := hs32.step hst
   replace hms : MS w34 [[b21], [b0_3], blk a34, M] := hms.upd 2 he34 rfl hn34
   have hfr2 : FR w.heap.size [[b21], [b0_3], blk a34] := hfr.upd 2 rfl hev.size (fun b hb => (hn34 b hb).1)
   replace hev := hev.then he34 (fun b hb => .inr (hfr.at 2 rfl b hb))
   replace hfr := hfr2
   clear hfr2
   replace hj16_l14 := hw34 (fl [[b21], [b0_3], blk a34, M]) hst.new
   clear hw34
   refine x_u 1 [(7, .slice a34 ((d16_l14 ++ ([(x19.1.1, x19.1.2.1, x19.1.2.2.1, x19.1.2.2.2)] : List (Int × Int × Int × Bool)))).length c34)] ?_
   refine x_end rfl ?_
   refine k_block ?_
   refine k_then ?_
   refine c_plain ?_
   refine x_u 3 [(33, Vi i_s9_l14), (34, Vi (IntKind.i64.wrap (i_s9_l14 - 1))), (9, Vi (IntKind.i64.wrap (i_s9_l14 - 1)))] ?_
   refine x_end rfl ?_
   have hx := some_inj h
   subst hx
   have hpk : MS w34 [[b0_3], blk a34, M] := hms.pick [some 1, some 2, some 3] _ rfl
   have hsu : ∀ x ∈ fl [[b0_3], blk a34, M], x ∈ fl [[b21], [b0_3], blk a34, M] := pick_sub [some 1, some 2, some 3] _ rfl
   replace hf3_2 := hf3_2.sub hsu
   replace hf7_1 := hf7_1.sub hsu
   replace hf7_2 := hf7_2.sub hsu
   replace hf7_3 := hf7_3.sub hsu
   replace hj16_l14 := hj16_l14.sub hsu
   replace hj17_l14 := hj17_l14.sub hsu
   replace hms := hpk
   replace hfr : FR w.heap.size [[b0_3], blk a34] := hfr.pick [some 1, some 2] _ rfl
   clear hpk hsu
   exact k_then ⟨(m14, x30.2, (d16_l14 ++ ([(x19.1.1, x19.1.2.1, x19.1.2.2.1, x19.1.2.2.2)] : List (Int × Int × Int × Bool))), d17_l14, IntKind.i64.wrap (i_s9_l14 - 1), a34, c34, a17_l14, c17_l14), ⟨rfl, rfl, rfl, rfl, rfl, rfl, rfl, trivial⟩, ⟨hn14, hev, hms, hfr, hf3_2, hf3_1, hf7_1, hf7_2, hf7_3, hj16_l14, hj17_l14⟩, Nat.lt_succ_self _⟩
 refine c_exit ?_
 refine k_then_exit ?_
 have hx := some_inj h
 subst hx
 have hy := some_inj hn14
 subst hy
 replace h := h14
 refine k_then_exit ?_
 refine k_block_in ?_
 refine k_then ?_
 refine c_norm [(4, Vl a0_7 x6.1 c0_7), (5, Vl a2_7 x6.2.1 c2_7), (6, Vl a4_7 x6.2.2.1 c4_7), (7, Vl a16_l14 d16_l14 c16_l14)] ⟨rfl, rfl, rfl, rfl, trivial⟩ (fun J => ?_)
 refine c_sp ?_
 refine x_u 4 [(58, Vl a0_7 x6.1 c0_7), (59, Vl a2_7 x6.2.1 c2_7), (60, Vl a4_7 x6.2.2.1 c4_7), (61, Vl a16_l14 d16_l14 c16_l14)] ?_
 obtain ⟨x35, hx, h⟩ := bind_some h
 have hpk : MS wl14 ([] ++ [[b0_3], M]) := hms.pick [some 0, some 2] _ rfl
 have hsb0 : ∀ x ∈ fl ([] ++ [[b0_3], M]), x ∈ fl [[b0_3], blk a16_l14, M] := pick_sub [some 0, some 2] _ rfl
 have hsb : ∀ x ∈ fl ([] ++ [(fl [[b0_3], M])]), x ∈ fl [[b0_3], blk a16_l14, M] := fun x hx => hsb0 x (fl_unfold x hx)
 have hcall := inventory_Run_w a0_7 c0_7 x6.1 a2_7 c2_7 x6.2.1 a4_7 c4_7 x6.2.2.1 a16_l14 c16_l14 d16_l14 _ wl14 (fl [[b0_3], M]) (MS.fold (P := []) hpk) (hf7_1.sub hsb) (hf7_2.sub hsb) (hf7_3.sub hsb) (hj16_l14.ro hsb (fun b hb hb2 => pick_out hms 1 rfl [some 0, some 2] ([] ++ [[b0_3], M]) rfl rfl b hb (fl_unfold b hb2))) hx
 refine x_call 18 #[] #[] [Vl a0_7 x6.1 c0_7, Vl a2_7 x6.2.1 c2_7, Vl a4_7 x6.2.2.1 c4_7, Vl a16_l14 d16_l14 c16_l14] _ rfl rfl rfl rfl hcall ?_
 rintro v w36 ⟨a0_36, c0_36, B2_36, rfl, he36, hmn36, hfn36, hf36_1⟩
 clear hcall hx
 refine inl1 ?_
 have hpk2 : MS wl14 ([] ++ [[b0_3], blk a16_l14, M]) := hms.pick [some 0, some 1, some 2] _ rfl
 have hsb2 : ∀ x ∈ fl ([] ++ [[b0_3], blk a16_l14, M]), x ∈ fl [[b0_3], blk a16_l14, M] := pick_sub [some 0, some 1, some 2] _ rfl
 have hst0 := Stp.call (LS := [[b0_3], blk a16_l14, M]) (res := [B2_36]) (par := []) (R := [[b0_3], blk a16_l14, M]) he36 (fun b hb => hsb2 b (fl_left' (P := []) b hb)) hfn36 (NP.init _ _) (fun x hx => hsb2 x (fl_right' (P := []) x hx))
 have hsn : ∀ x ∈ fl [B2_36, [b0_3], blk a16_l14, M], x ∈ fl ([B2_36] ++ ([] ++ [[b0_3], blk a16_l14, M])) := pick_sub [some 0, some 1, some 2, some 3] _ rfl
 have hst := hst0.res hsn
 replace hf3_1 := he36.box hf3_1 ((MS.outs (P := []) hpk2 0 rfl) _ mem1)
 replace hf3_2 := hf3_2.step hst
 replace hf7_1 := hf7_1.step hst
 replace hf7_2 := hf7_2.step hst
 replace hf7_3 := hf7_3.step hst
 replace hj16_l14 := hj16_l14.step hst he36 (MS.outs (P := []) hpk2 1 rfl)
 replace hms : MS w36 [B2_36, [b0_3], blk a16_l14, M] := (MS.call (P := []) (R := [[b0_3], blk a16_l14, M]) (res := [B2_36]) (par := []) hpk2 he36 hmn36 hfn36 (NP.init _ _)).pick [some 0, some 1, some 2, some 3] _ rfl
 have hfr2 : FR w.heap.size [B2_36, [b0_3], blk a16_l14] := (FR.cons (fun b hb => Nat.le_trans hev.size (hfn36.at 0 rfl b hb)) (FR.cons (hfr.at 0 rfl) (FR.cons (hfr.at 1 rfl) (FR.nil _))))
 replace hev := hev.ext he36
 replace hfr := hfr2
 clear hfr2
 clear hpk hsb hsb0 hpk2 hsb2 hst0 hsn hst
 have hpk : MS w36 [[b0_3], blk a16_l14, M] := hms.pick [some 1, some 2, some 3] _ rfl
 have hsu : ∀ x ∈ fl [[b0_3], blk a16_l14, M], x ∈ fl [B2_36, [b0_3], blk a16_l14, M] := pick_sub [some 1, some 2, some 3] _ rfl
 replace hf3_2 := hf3_2.sub hsu
 replace hf7_1 := hf7_1.sub hsu
 replace hf7_2 := hf7_2.sub hsu
 replace hf7_3 := hf7_3.sub hsu
 replace hj16_l14 := hj16_l14.sub hsu
 replace hf36_1 := hf36_1.ro (plain_int _) (pick_out hms 0 rfl [some 1, some 2, some 3] [[b0_3], blk a16_l14, M] rfl rfl)
 replace hms := hpk
 replace hfr : FR w.heap.size [[b0_3], blk a16_l14] := hfr.pick [some 1, some 2] _ rfl
 clear hpk hsu
 refine x_u 7 [(57, .tuple #[Vl a0_36 x35.1 c0_36, Vi x35.2.1, Vi x35.2.2]), (63, Vl a0_36 x35.1 c0_36), (64, Vi x35.2.1), (65, Vi x35.2.2), (13, Vl a0_36 x35.1 c0_36), (14, Vi x35.2.1), (15, Vi x35.2.2)] ?_
 refine x_ek ?_
 refine c_sp ?_
 refine x_u 2 [(66, Vl a4_7 x6.2.2.1 c4_7), (16, Vl a4_7 x6.2.2.1 c4_7)] ?_
 refine x_ek ?_
 refine c_norm [(4, Vl a0_7 x6.1 c0_7), (5, Vl a2_7 x6.2.1 c2_7), (7, Vl a16_l14 d16_l14 c16_l14), (13, Vl a0_36 x35.1 c0_36), (14, Vi x35.2.1), (15, Vi x35.2.2), (16, Vl a4_7 x6.2.2.1 c4_7)] ⟨rfl, rfl, rfl, rfl, rfl, rfl, rfl, trivial⟩ (fun J => ?_)
 refine c_seq ?_
 refine c_sp ?_
 refine x_u 1 [(17, Vi 0)] ?_
 refine x_ek ?_
 refine c_block ?_
 have hpk : MS w36 [blk a16_l14, M] := hms.pick [some 1, some 2] _ rfl
 have hsu : ∀ x ∈ fl [blk a16_l14, M], x ∈ fl [[b0_3], blk a16_l14, M] := pick_sub [some 1, some 2] _ rfl
 replace hf7_1 := hf7_1.sub hsu
 replace hf7_2 := hf7_2.sub hsu
 replace hj16_l14 := hj16_l14.sub hsu
 replace hf36_1 := hf36_1.sub hsu
 replace hf7_3 := hf7_3.sub hsu
 replace hms := hpk
 replace hfr : FR w.heap.size [blk a16_l14] := hfr.pick [some 1] _ rfl
 clear hpk hsu
 obtain ⟨d39, hd39, h39⟩ := bind_some h
 obtain ⟨m39, hd39⟩ := loop_some hd39
 refine c_loop (loop_rule hmx (σ := Nat × (List (List Int)) × Int × Option Addr × Nat) (fun s => match s with | (_, d10_l39, i_s17_l39, a10_l39, c10_l39) => [(4, Vl a0_7 x6.1 c0_7), (5, Vl a2_7 x6.2.1 c2_7), (7, Vl a16_l14 d16_l14 c16_l14), (13, Vl a0_36 x35.1 c0_36), (14, Vi x35.2.1), (15, Vi x35.2.2), (16, Vl a10_l39 d10_l39 c10_l39), (17, Vi i_s17_l39)]) (fun s w' => match s with | (m, d10_l39, i_s17_l39, a10_l39, c10_l39) => loopN (law42_InventoryRuns_L39 x6 d16_l14 x35) m (d10_l39, i_s17_l39) = some d39 ∧ Ev [] w w' ∧ MS w' [blk a16_l14, M] ∧ FR w.heap.size [blk a16_l14] ∧ SlR (eProd eStr (eInt .i64)) w' (fl [blk a16_l14, M]) a0_7 c0_7 x6.1 ∧ SlR (eInt .i64) w' (fl [blk a16_l14, M]) a2_7 c2_7 x6.2.1 ∧ OwnS (eProd (eInt .i64) (eProd (eInt .i64) (eProd (eInt .i64) eBool))) 30 w' (fl [blk a16_l14, M]) a16_l14 c16_l14 d16_l14 ∧ SlR (eSl (eInt .i64)) w' (fl [blk a16_l14, M]) a0_36 c0_36 x35.1 ∧ SlR (eSl (eInt .i64)) w' (fl [blk a16_l14, M]) a10_l39 c10_l39 d10_l39) (fun s => s.1) (m39, x6.2.2.1, 0, a4_7, c4_7) ⟨rfl, rfl, rfl, rfl, rfl, rfl, rfl, rfl, trivial⟩ ⟨hd39, hev, hms, hfr, hf7_1, hf7_2, hj16_l14, hf36_1, hf7_3⟩ ?_)
 rintro ⟨m39, d10_l39, i_s17_l39, a10_l39, c10_l39⟩ J wl39 ⟨hn39, hev, hms, hfr, hf7_1, hf7_2, hj16_l14, hf36_1, hj10_l39⟩
 rcases m39 with _ | m39
 · exact (loopN_zero hn39).elim
 obtain ⟨t39, h, hn39⟩ := bind_some hn39
 refine c_seq ?_
 refine c_sp ?_
 refine x_u 2 [(67, Vi i_s17_l39), (68, Vl a16_l14 d16_l14 c16_l14)] ?_
 refine x_len (vs := [Vl a16_l14 d16_l14 c16_l14]) (Vi ((d16_l14).length : Int)) rfl rfl rfl (reads_len tsl41 _ _ _ _ _) ?_
 refine x_u 1 [(70, .bool (decide (i_s17_l39 < ((d16_l14).length : Int))))] ?_
 refine x_ek ?_
 refine c_norm [(4, Vl a0_7 x6.1 c0_7), (5, Vl a2_7 x6.2.1 c2_7), (7, Vl a16_l14 d16_l14 c16_l14), (13, Vl a0_36 x35.1 c0_36), (14, Vi x35.2.1), (15, Vi x35.2.2), (16, Vl a10_l39 d10_l39 c10_l39), (17, Vi i_s17_l39), (70, .bool (decide (i_s17_l39 < ((d16_l14).length : Int))))] ⟨rfl, rfl, rfl, rfl, rfl, rfl, rfl, rfl, rfl, trivial⟩ (fun J => ?_)
 refine c_if (decide (i_s17_l39 < ((d16_l14).length : Int))) rfl h (fun h => ?_) (fun h => ?_)
 · refine c_skip ?_
   refine k_then ?_
   refine c_seq ?_
   refine c_block ?_
   refine c_sp ?_
   refine x_u 5 [(74, Vl a0_7 x6.1 c0_7), (75, Vl a2_7 x6.2.1 c2_7), (76, Vl a10_l39 d10_l39 c10_l39), (77, Vl a16_l14 d16_l14 c16_l14), (78, Vi i_s17_l39)] ?_
   obtain ⟨x41, hx41, h⟩ := bind_some h
   obtain ⟨g41, cs41, ha41, hr41, hc41, hR⟩ := own_index (Mo := []) tsl41 hj16_l14 hx41
   obtain ⟨_, _, rfl, rfl, ⟨_, _, rfl, rfl, ⟨_, _, rfl, rfl, rfl⟩⟩⟩ := hR
   refine x_indexAddr (xv := Vl a16_l14 d16_l14 c16_l14) (yv := Vi i_s17_l39) (.pointer (some ⟨g41, (Int.toNat i_s17_l39) * (eProd (eInt .i64) (eProd (eInt .i64) (eProd (eInt .i64) eBool))).n, none⟩)) rfl rfl rfl rfl hr41 ?_
   refine x_load (xv := .pointer (some ⟨g41, (Int.toNat i_s17_l39) * (eProd (eInt .i64) (eProd (eInt .i64) (eProd (eInt .i64) eBool))).n, none⟩)) (.agg #[Vi x41.1, Vi x41.2.1, Vi x41.2.2.1, .bool x41.2.2.2]) rfl rfl rfl (reads_agg tagg30 hc41 (fun _ h => by cases h)) ?_
   obtain ⟨x43, hx, h⟩ := bind_some h
   have hpk : MS wl39 ([] ++ [blk a16_l14, M]) := hms.pick [some 0, some 1] _ rfl
   have hsb0 : ∀ x ∈ fl ([] ++ [blk a16_l14, M]), x ∈ fl [blk a16_l14, M] := pick_sub [some 0, some 1] _ rfl
   have hsb : ∀ x ∈ fl ([] ++ [(fl [blk a16_l14, M])]), x ∈ fl [blk a16_l14, M] := fun x hx => hsb0 x (fl_unfold x hx)
   have hcall := inventory_Apply_w a0_7 c0_7 x6.1 a2_7 c2_7 x6.2.1 a10_l39 c10_l39 d10_l39 x41.1 x41.2.1 x41.2.2.1 x41.2.2.2 _ wl39 (fl [blk a16_l14, M]) (MS.fold (P := []) hpk) (hf7_1.sub hsb) (hf7_2.sub hsb) (hj10_l39.sub hsb) hx
   refine x_call 9 #[] #[] [Vl a0_7 x6.1 c0_7, Vl a2_7 x6.2.1 c2_7, Vl a10_l39 d10_l39 c10_l39, .agg #[Vi x41.1, Vi x41.2.1, Vi x41.2.2.1, .bool x41.2.2.2]] _ rfl rfl rfl rfl hcall ?_
   rintro v w44 ⟨a0_44, c0_44, B2_44, rfl, he44, hmn44, hfn44, hf44_1⟩
   clear hcall hx
   refine inl1 ?_
   have hpk2 : MS wl39 ([] ++ [blk a16_l14, M]) := hms.pick [some 0, some 1] _ rfl
   have hsb2 : ∀ x ∈ fl ([] ++ [blk a16_l14, M]), x ∈ fl [blk a16_l14, M] := pick_sub [some 0, some 1] _ rfl
   have hst0 := Stp.call (LS := [blk a16_l14, M]) (res := [B2_44]) (par := []) (R := [blk a16_l14, M]) he44 (fun b hb => hsb2 b (fl_left' (P := []) b hb)) hfn44 (NP.init _ _) (fun x hx => hsb2 x (fl_right' (P := []) x hx))
   have hsn : ∀ x ∈ fl [B2_44, blk a16_l14, M], x ∈ fl ([B2_44] ++ ([] ++ [blk a16_l14, M])) := pick_sub [some 0, some 1, some 2] _ rfl
   have hst := hst0.res hsn
   replace hf7_1 := hf7_1.step hst
   replace hf7_2 := hf7_2.step hst
   replace hj16_l14 := hj16_l14.step hst he44 (MS.outs (P := []) hpk2 0 rfl)
   replace hf36_1 := hf36_1.step hst
   replace hj10_l39 := hj10_l39.step hst
   replace hms : MS w44 [B2_44, blk a16_l14, M] := (MS.call (P := []) (R := [blk a16_l14, M]) (res := [B2_44]) (par := []) hpk2 he44 hmn44 hfn44 (NP.init _ _)).pick [some 0, some 1, some 2] _ rfl
   have hfr2 : FR w.heap.size [B2_44, blk a16_l14] := (FR.cons (fun b hb => Nat.le_trans hev.size (hfn44.at 0 rfl b hb)) (FR.cons (hfr.at 0 rfl) (FR.nil _)))
   replace hev := hev.ext he44
   replace hfr := hfr2
   clear hfr2
   clear hpk hsb hsb0 hpk2 hsb2 hst0 hsn hst
   have hpk : MS w44 [blk a16_l14, M] := hms.pick [some 1, some 2] _ rfl
   have hsu : ∀ x ∈ fl [blk a16_l14, M], x ∈ fl [B2_44, blk a16_l14, M] := pick_sub [some 1, some 2] _ rfl
   replace hf7_1 := hf7_1.sub hsu
   replace hf7_2 := hf7_2.sub hsu
   replace hj16_l14 := hj16_l14.sub hsu
   replace hf36_1 := hf36_1.sub hsu
   replace hj10_l39 := hj10_l39.sub hsu
   replace hf44_1 := hf44_1.ro (plain_int _) (pick_out hms 0 rfl [some 1, some 2] [blk a16_l14, M] rfl rfl)
   replace hms := hpk
   replace hfr : FR w.heap.size [blk a16_l14] := hfr.pick [some 1] _ rfl
   clear hpk hsu
   refine x_u 5 [(73, .tuple #[Vl a0_44 x43.1 c0_44, Vi x43.2]), (82, Vl a0_44 x43.1 c0_44), (83, Vi x43.2), (18, Vl a0_44 x43.1 c0_44), (19, Vi x43.2)] ?_
   refine x_ek ?_
   refine c_norm [(4, Vl a0_7 x6.1 c0_7), (5, Vl a2_7 x6.2.1 c2_7), (7, Vl a16_l14 d16_l14 c16_l14), (13, Vl a0_36 x35.1 c0_36), (14, Vi x35.2.1), (15, Vi x35.2.2), (17, Vi i_s17_l39), (18, Vl a0_44 x43.1 c0_44), (19, Vi x43.2)] ⟨rfl, rfl, rfl, rfl, rfl, rfl, rfl, rfl, rfl, trivial⟩ (fun J => ?_)
   refine c_seq ?_
   refine c_sp ?_
   refine x_u 2 [(84, Vi x43.2), (85, .bool (x43.2 != 0))] ?_
   refine x_ek ?_
   refine c_if (x43.2 != 0) rfl h (fun h => ?_) (fun h => ?_)
   · refine c_sp ?_
     refine x_u 4 [(86, Vi x35.2.2), (87, Vi x43.2), (88, .bool (x35.2.2 == x43.2)), (89, .bool (x35.2.2 == x43.2))] ?_
     refine x_if 89 (x35.2.2 == x43.2) rfl h (fun h => ?_) (fun h => ?_)
     · refine x_u 5 [(90, Vi x35.2.1), (91, Vi i_s17_l39), (92, .bool (x35.2.1 == i_s17_l39)), (93, .bool (x35.2.1 == i_s17_l39)), (94, .bool (x35.2.1 == i_s17_l39))] ?_
       refine x_if 94 (x35.2.1 == i_s17_l39) rfl h (fun h => ?_) (fun h => ?_)
       · refine x_u 1 [(95, Vl a0_36 x35.1 c0_36)] ?_
         refine x_len (vs := [Vl a0_36 x35.1 c0_36]) (Vi ((x35.1).length : Int)) rfl rfl rfl (reads_len tsl26 _ _ _ _ _) ?_
         refine x_u 3 [(97, .bool (((x35.1).length : Int) == 0)), (98, .bool (((x35.1).length : Int) == 0)), (99, .bool (((x35.1).length : Int) == 0))] ?_
         refine x_if 99 (((x35.1).length : Int) == 0) rfl h (fun h => ?_) (fun h => ?_)
         · obtain ⟨x46, hx, h⟩ := bind_some h
           have hcall := law42_sane_w _ w44 hx
           refine x_call 13 #[] #[] [] _ rfl rfl rfl rfl hcall ?_
           rintro v w47 ⟨rfl, he47⟩
           clear hcall hx
           refine inl1 ?_
           have hst := Stp.ext (ls := [blk a16_l14, M]) he47
           replace hf7_1 := hf7_1.step hst
           replace hf7_2 := hf7_2.step hst
           replace hj16_l14 := hj16_l14.step hst he47 nn2
           replace hf36_1 := hf36_1.step hst
           replace hf44_1 := hf44_1.step hst
           replace hms := hms.ev he47
           replace hev := hev.ext he47
           refine x_u 2 [(101, .bool x46), (2, .bool x46)] ?_
           refine x_ek ?_
           refine c_norm [(2, .bool x46)] ⟨rfl, trivial⟩ (fun J => ?_)
           refine c_ret ?_
           refine k_then_ret ?_
           refine k_block_ret ?_
           refine k_then_ret ?_
           have hx := some_inj h
           subst hx
           have hy := some_inj hn39
           subst hy
           replace h := h39
           refine k_then_ret ?_
           refine k_block_ret ?_
           refine k_then_ret ?_
           refine r_ret (r_vals [.bool x46] ⟨rfl, trivial⟩ ?_)
           have hx := some_inj h
           subst hx
           have hmr : MS w47 [M] := hms.pick [some 1] _ rfl
           have hsu : ∀ x ∈ fl [M], x ∈ fl [blk a16_l14, M] := pick_sub [some 1] _ rfl
           exact ⟨rfl, hev⟩
         refine x_u 3 [(100, undef), (101, .bool false), (2, .bool false)] ?_
         refine x_ek ?_
         refine c_norm [(2, .bool false)] ⟨rfl, trivial⟩ (fun J => ?_)
         refine c_ret ?_
         refine k_then_ret ?_
         refine k_block_ret ?_
         refine k_then_ret ?_
         have hx := some_inj h
         subst hx
         have hy := some_inj hn39
         subst hy
         replace h := h39
         refine k_then_ret ?_
         refine k_block_ret ?_
         refine k_then_ret ?_
         refine r_ret (r_vals [.bool false] ⟨rfl, trivial⟩ ?_)
         have hx := some_inj h
         subst hx
         have hmr : MS w44 [M] := hms.pick [some 1] _ rfl
         have hsu : ∀ x ∈ fl [M], x ∈ fl [blk a16_l14, M] := pick_sub [some 1] _ rfl
         exact ⟨rfl, hev⟩
       refine x_u 8 [(95, undef), (96, undef), (97, undef), (98, .bool false), (99, .bool false), (100, undef), (101, .bool false), (2, .bool false)] ?_
       refine x_ek ?_
       refine c_norm [(2, .bool false)] ⟨rfl, trivial⟩ (fun J => ?_)
       refine c_ret ?_
       refine k_then_ret ?_
       refine k_block_ret ?_
       refine k_then_ret ?_
       have hx := some_inj h
       subst hx
       have hy := some_inj hn39
       subst hy
       replace h := h39
       refine k_then_ret ?_
       refine k_block_ret ?_
       refine k_then_ret ?_
       refine r_ret (r_vals [.bool false] ⟨rfl, trivial⟩ ?_)
       have hx := some_inj h
       subst hx
       have hmr : MS w44 [M] := hms.pick [some 1] _ rfl
       have hsu : ∀ x ∈ fl [M], x ∈ fl [blk a16_l14, M] := pick_sub [some 1] _ rfl
       exact ⟨rfl, hev⟩
     refine x_u 13 [(90, undef), (91, undef), (92, undef), (93, .bool false), (94, .bool false), (95, undef), (96, undef), (97, undef), (98, .bool false), (99, .bool false), (100, undef), (101, .bool false), (2, .bool false)] ?_
     refine x_ek ?_
     refine c_norm [(2, .bool false)] ⟨rfl, trivial⟩ (fun J => ?_)
     refine c_ret ?_
     refine k_then_ret ?_
     refine k_block_ret ?_
     refine k_then_ret ?_
     have hx := some_inj h
     subst hx
     have hy := some_inj hn39
     subst hy
     replace h := h39
     refine k_then_ret ?_
     refine k_block_ret ?_
     refine k_then_ret ?_
     refine r_ret (r_vals [.bool false] ⟨rfl, trivial⟩ ?_)
     have hx := some_inj h
     subst hx
     have hmr : MS w44 [M] := hms.pick [some 1] _ rfl
     have hsu : ∀ x ∈ fl [M], x ∈ fl [blk a16_l14, M] := pick_sub [some 1] _ rfl
     exact ⟨rfl, hev⟩
   refine c_skip ?_
   refine k_then ?_
   refine c_plain ?_
   refine x_u 2 [(102, Vl a0_44 x43.1 c0_44), (16, Vl a0_44 x43.1 c0_44)] ?_
   refine x_end rfl ?_
   refine k_block ?_
   refine k_then ?_
   refine c_plain ?_
   refine x_u 3 [(71, Vi i_s17_l39), (72, Vi (IntKind.i64.wrap (i_s17_l39 + 1))), (17, Vi (IntKind.i64.wrap (i_s17_l39 + 1)))] ?_
   refine x_end rfl ?_
   have hx := some_inj h
   subst hx
   exact k_then ⟨(m39, x43.1, IntKind.i64.wrap (i_s17_l39 + 1), a0_44, c0_44), ⟨rfl, rfl, rfl, rfl, rfl, rfl, rfl, rfl, trivial⟩, ⟨hn39, hev, hms, hfr, hf7_1, hf7_2, hj16_l14, hf36_1, hf44_1⟩, Nat.lt_succ_self _⟩
 refine c_exit ?_
 refine k_then_exit ?_
 have hx := some_inj h
 subst hx
 have hy := some_inj hn39
 subst hy
 replace h := h39
 refine k_then_exit ?_
 refine k_block_in ?_
 refine k_then ?_
 refine c_norm [(7, Vl a16_l14 d16_l14 c16_l14), (13, Vl a0_36 x35.1 c0_36), (14, Vi x35.2.1), (15, Vi x35.2.2), (16, Vl a10_l39 d10_l39 c10_l39)] ⟨rfl, rfl, rfl, rfl, rfl, trivial⟩ (fun J => ?_)
 refine c_sp ?_
 refine x_u 3 [(103, Vi x35.2.2), (104, .bool (x35.2.2 == 0)), (105, .bool (x35.2.2 == 0))] ?_
 refine x_if 105 (x35.2.2 == 0) rfl h (fun h => ?_) (fun h => ?_)
 · refine x_u 2 [(106, Vi x35.2.1), (107, Vl a16_l14 d16_l14 c16_l14)] ?_
   refine x_len (vs := [Vl a16_l14 d16_l14 c16_l14]) (Vi ((d16_l14).length : Int)) rfl rfl rfl (reads_len tsl41 _ _ _ _ _) ?_
   refine x_u 3 [(109, .bool (x35.2.1 == ((d16_l14).length : Int))), (110, .bool (x35.2.1 == ((d16_l14).length : Int))), (111, .bool (x35.2.1 == ((d16_l14).length : Int)))] ?_
   refine x_if 111 (x35.2.1 == ((d16_l14).length : Int)) rfl h (fun h => ?_) (fun h => ?_)
   · refine x_u 2 [(112, Vl a0_36 x35.1 c0_36), (113, Vl a10_l39 d10_l39 c10_l39)] ?_
     obtain ⟨x48, hx, h⟩ := bind_some h
     have hpk : MS wl39 ([] ++ [blk a16_l14, M]) := hms.pick [some 0, some 1] _ rfl
     have hsb0 : ∀ x ∈ fl ([] ++ [blk a16_l14, M]), x ∈ fl [blk a16_l14, M] := pick_sub [some 0, some 1] _ rfl
     have hsb : ∀ x ∈ fl ([] ++ [(fl [blk a16_l14, M])]), x ∈ fl [blk a16_l14, M] := fun x hx => hsb0 x (fl_unfold x hx)
     have hcall := gen_Lists_w a0_36 c0_36 x35.1 a10_l39 c10_l39 d10_l39 _ wl39 (fl [blk a16_l14, M]) (MS.fold (P := []) hpk) (hf36_1.sub hsb) (hj10_l39.sub hsb) hx
     refine x_call 19 #[] #[] [Vl a0_36 x35.1 c0_36, Vl a10_l39 d10_l39 c10_l39] _ rfl rfl rfl rfl hcall ?_
     rintro v w49 ⟨rfl, he49⟩
     clear hcall hx
     refine inl1 ?_
     have hst := Stp.ext (ls := [blk a16_l14, M]) he49
     replace hj16_l14 := hj16_l14.step hst he49 nn2
     replace hf36_1 := hf36_1.step hst
     replace hj10_l39 := hj10_l39.step hst
     replace hms := hms.ev he49
     replace hev := hev.ext he49
     clear hpk hsb hsb0
     refine x_u 2 [(115, .bool x48), (116, .bool x48)] ?_
     refine x_if 116 x48 rfl h (fun h => ?_) (fun h => ?_)
     · obtain ⟨x50, hx, h⟩ := bind_some h
       have hcall := law42_sane_w _ w49 hx
       refine x_call 13 #[] #[] [] _ rfl rfl rfl rfl hcall ?_
       rintro v w51 ⟨rfl, he51⟩
       clear hcall hx
       refine inl1 ?_
       have hst := Stp.ext (ls := [blk a16_l14, M]) he51
       replace hj16_l14 := hj16_l14.step hst he51 nn2
       replace hf36_1 := hf36_1.step hst
       replace hj10_l39 := hj10_l39.step hst
       replace hms := hms.ev he51
       replace hev := hev.ext he51
       refine x_u 2 [(118, .bool x50), (2, .bool x50)] ?_
       refine x_ek ?_
       refine c_norm [(2, .bool x50)] ⟨rfl, trivial⟩ (fun J => ?_)
       refine c_ret ?_
       refine r_ret (r_vals [.bool x50] ⟨rfl, trivial⟩ ?_)
       have hx := some_inj h
       subst hx
       have hmr : MS w51 [M] := hms.pick [some 1] _ rfl
       have hsu : ∀ x ∈ fl [M], x ∈ fl [blk a16_l14, M] := pick_sub [some 1] _ rfl
       exact ⟨rfl, hev⟩
     refine x_u 3 [(117, undef), (118, .bool false), (2, .bool false)] ?_
     refine x_ek ?_
     refine c_norm [(2, .bool false)] ⟨rfl, trivial⟩ (fun J => ?_)
     refine c_ret ?_
     refine r_ret (r_vals [.bool false] ⟨rfl, trivial⟩ ?_)
     have hx := some_inj h
     subst hx
     have hmr : MS w49 [M] := hms.pick [some 1] _ rfl
     have hsu : ∀ x ∈ fl [M], x ∈ fl [blk a16_l14, M] := pick_sub [some 1] _ rfl
     exact ⟨rfl, hev⟩
   refine x_u 8 [(112, undef), (113, undef), (114, undef), (115, .bool false), (116, .bool false), (117, undef), (118, .bool false), (2, .bool false)] ?_
   refine x_ek ?_
   refine c_norm [(2, .bool false)] ⟨rfl, trivial⟩ (fun J => ?_)
   refine c_ret ?_
   refine r_ret (r_vals [.bool false] ⟨rfl, trivial⟩ ?_)
   have hx := some_inj h
   subst hx
   have hmr : MS wl39 [M] := hms.pick [some 1] _ rfl
   have hsu : ∀ x ∈ fl [M], x ∈ fl [blk a16_l14, M] := pick_sub [some 1] _ rfl
   exact ⟨rfl, hev⟩
 refine x_u 14 [(106, undef), (107, undef), (108, undef), (109, undef), (110, .bool false), (111, .bool false), (112, undef), (113, undef), (114, undef), (115, .bool false), (116, .bool false), (117, undef), (118, .bool false), (2, .bool false)] ?_
 refine x_ek ?_
 refine c_norm [(2, .bool false)] ⟨rfl, trivial⟩ (fun J => ?_)
 refine c_ret ?_
 refine r_ret (r_vals [.bool false] ⟨rfl, trivial⟩ ?_)
 have hx := some_inj h
 subst hx
 have hmr : MS wl39 [M] := hms.pick [some 1] _ rfl
 have hsu : ∀ x ∈ fl [M], x ∈ fl [blk a16_l14, M] := pick_sub [some 1] _ rfl
 exact ⟨rfl, hev⟩
end Go.Proofs.Ytgeceohdppecgaa
