
/- Walks, printed by program: each function returns what the partial function of the same name returns. Conditions: those of each theorem. -/
import Derived.Test.YtgeceohdppecgaaGT
import Derived.Test.YtgeceohdppecgaaGgen
import Derived.Test.YtgeceohdppecgaaGinventory
import Derived.Test.YtgeceohdppecgaaGlaw42made
import Derived.Test.YtgeceohdppecgaaGlaw42sane
import Derived.Test.YtgeceohdppecgaaGlaw42shift
set_option linter.unusedVariables false
set_option linter.unusedSimpArgs false
set_option maxRecDepth 4000
namespace Go.Proofs.Ytgeceohdppecgaa
open Go Go.V Go.Proofs
def law42_InventoryConserves_L56 (x13 : (Int × Int × Int × Bool) × Int) (x18 : (List (List Int)) × Int) (j_s13_l27 : Int) (s : (List Int) × Int) : Option (Step ((List Int) × Int) (List Int)) :=
match s with
| (d58_l56, x_s17_l56) =>
((idx x18.1 j_s13_l27).bind fun x62 =>
(if (decide (x_s17_l56 < ((x62).length : Int))) = true then
((idx x18.1 j_s13_l27).bind fun x66 =>
((idx x66 x_s17_l56).bind fun x70 =>
(if (x70 != x13.1.1) = true then
((idx x18.1 j_s13_l27).bind fun x72 =>
((idx x72 x_s17_l56).bind fun x76 =>
(if d58_l56.length + ([x76]).length ≤ 4294967296 then
some (.next ((d58_l56 ++ [x76]), IntKind.i64.wrap (x_s17_l56 + 1)))
else none)))
else
some (.next (d58_l56, IntKind.i64.wrap (x_s17_l56 + 1))))))
else
some (.done d58_l56)))

def law42_InventoryConserves_L30 (d10_l11 : List (List Int)) (x13 : (Int × Int × Int × Bool) × Int) (j_s13_l27 : Int) (s : (List Int) × Int) : Option (Step ((List Int) × Int) (List Int)) :=
match s with
| (d32_l30, x_s16_l30) =>
((idx d10_l11 j_s13_l27).bind fun x36 =>
(if (decide (x_s16_l30 < ((x36).length : Int))) = true then
((idx d10_l11 j_s13_l27).bind fun x40 =>
((idx x40 x_s16_l30).bind fun x44 =>
(if (x44 != x13.1.1) = true then
((idx d10_l11 j_s13_l27).bind fun x46 =>
((idx x46 x_s16_l30).bind fun x50 =>
(if d32_l30.length + ([x50]).length ≤ 4294967296 then
some (.next ((d32_l30 ++ [x50]), IntKind.i64.wrap (x_s16_l30 + 1)))
else none)))
else
some (.next (d32_l30, IntKind.i64.wrap (x_s16_l30 + 1))))))
else
some (.done d32_l30)))

def law42_InventoryConserves_L27 (d10_l11 : List (List Int)) (x13 : (Int × Int × Int × Bool) × Int) (x18 : (List (List Int)) × Int) (x22 : Int × Int) (s : Int) : Option (Step Int (Unit ⊕ Unit)) :=
match s with
| j_s13_l27 =>
(if (decide (j_s13_l27 < ((d10_l11).length : Int))) = true then
((loop (law42_InventoryConserves_L30 d10_l11 x13 j_s13_l27) (([] : List Int), 0)).bind fun d => match d with
| d32_x30 => ((loop (law42_InventoryConserves_L56 x13 x18 j_s13_l27) (([] : List Int), 0)).bind fun d => match d with
| d58_x56 => ((gen_Ints d32_x30 d58_x56).bind fun x81 =>
(if (!x81) = true then
some (.done (.inl ()))
else
(if (j_s13_l27 == x13.1.2.2.1) = true then
((idx x18.1 j_s13_l27).bind fun x83 =>
(if (((x83).length : Int) != (IntKind.i64.wrap (((d32_x30).length : Int) + 1))) = true then
some (.done (.inl ()))
else
(if (x22.2 != 0) = true then
(if x13.1.2.2.2 = true then
some (.done (.inl ()))
else
(if (!x13.1.2.2.2) = true then
(if (x22.2 != ((d32_x30).length : Int)) = true then
some (.done (.inl ()))
else
(if (j_s13_l27 != x13.1.2.2.1) = true then
((idx x18.1 j_s13_l27).bind fun x87 =>
(if (((x87).length : Int) != ((d32_x30).length : Int)) = true then
some (.done (.inl ()))
else
some (.next (IntKind.i64.wrap (j_s13_l27 + 1)))))
else
some (.next (IntKind.i64.wrap (j_s13_l27 + 1)))))
else
(if (j_s13_l27 != x13.1.2.2.1) = true then
((idx x18.1 j_s13_l27).bind fun x91 =>
(if (((x91).length : Int) != ((d32_x30).length : Int)) = true then
some (.done (.inl ()))
else
some (.next (IntKind.i64.wrap (j_s13_l27 + 1)))))
else
some (.next (IntKind.i64.wrap (j_s13_l27 + 1))))))
else
(if (!x13.1.2.2.2) = true then
(if (x22.2 != ((d32_x30).length : Int)) = true then
some (.done (.inl ()))
else
(if (j_s13_l27 != x13.1.2.2.1) = true then
((idx x18.1 j_s13_l27).bind fun x95 =>
(if (((x95).length : Int) != ((d32_x30).length : Int)) = true then
some (.done (.inl ()))
else
some (.next (IntKind.i64.wrap (j_s13_l27 + 1)))))
else
some (.next (IntKind.i64.wrap (j_s13_l27 + 1)))))
else
(if (j_s13_l27 != x13.1.2.2.1) = true then
((idx x18.1 j_s13_l27).bind fun x99 =>
(if (((x99).length : Int) != ((d32_x30).length : Int)) = true then
some (.done (.inl ()))
else
some (.next (IntKind.i64.wrap (j_s13_l27 + 1)))))
else
some (.next (IntKind.i64.wrap (j_s13_l27 + 1))))))))
else
(if (j_s13_l27 != x13.1.2.2.1) = true then
((idx x18.1 j_s13_l27).bind fun x103 =>
(if (((x103).length : Int) != ((d32_x30).length : Int)) = true then
some (.done (.inl ()))
else
some (.next (IntKind.i64.wrap (j_s13_l27 + 1)))))
else
some (.next (IntKind.i64.wrap (j_s13_l27 + 1)))))))))
else
some (.done (.inr ())))

def law42_InventoryConserves_L11 (x2 : ((List Int) × Int)) (x6 : (List ((List UInt8) × Int)) × (List Int) × (List (List Int)) × Int) (s : Int × (List (List Int)) × Int) : Option (Step (Int × (List (List Int)) × Int) (Unit ⊕ Unit)) :=
match s with
| (e4_l11_1, d10_l11, i_s7_l11) =>
(if (decide (i_s7_l11 < 12)) = true then
((law42_shift x2.1 e4_l11_1 x6.2.1 d10_l11).bind fun x13 =>
((inventory_Apply x6.1 x6.2.1 d10_l11 x13.1.1 x13.1.2.1 x13.1.2.2.1 x13.1.2.2.2).bind fun x18 =>
(if (x18.2 != 0) = true then
some (.next (x13.2, d10_l11, IntKind.i64.wrap (i_s7_l11 + 1)))
else
((inventory_Where x18.1 x13.1.1).bind fun x22 =>
((inventory_Valid x6.1 x6.2.1 x18.1).bind fun x25 =>
(if (!x25) = true then
some (.done (.inl ()))
else
(if (x22.1 != x13.1.2.2.1) = true then
some (.done (.inl ()))
else
(if (((x18.1).length : Int) != ((d10_l11).length : Int)) = true then
some (.done (.inl ()))
else
((loop (law42_InventoryConserves_L27 d10_l11 x13 x18 x22) 0).bind fun d => match d with
| (.inl _) => some (.done (.inl ()))
| (.inr _) => some (.next (x13.2, x18.1, IntKind.i64.wrap (i_s7_l11 + 1))))))))))))
else
some (.done (.inr ())))

def law42_InventoryConserves (p0 : List Int) : Option Bool :=
((gen_New p0).bind fun x2 =>
((law42_made x2.1 x2.2).bind fun x6 =>
((loop (law42_InventoryConserves_L11 x2 x6) (x6.2.2.2, x6.2.2.1, 0)).bind fun d => match d with
| (.inl _) => some false
| (.inr _) => ((law42_sane).bind fun x107 =>
some x107))))

theorem law42_InventoryConserves_w (a_p0 : Option Addr) (c_p0 : Nat) (p0 : List Int) (r : Bool) (w : World) (M : List Nat) (hms : MS w [M]) (hs_p0 : SlR (eInt .i64) w (fl [M]) a_p0 c_p0 p0) (h : law42_InventoryConserves p0 = some r) : CallVC Try.prog 3 [Vl a_p0 p0 c_p0] w fun v w' => v = .bool r ∧ Ev [] w w' := by
 refine calls_vc hmx Try.func3 (by kernel_rfl) rfl (rs := [.tmp 2]) rfl (by kernel_rfl) (args := [Vl a_p0 p0 c_p0]) rfl ?_
 have hev : Ev [] w w := Ev.refl _ _
 have hfr : FR w.heap.size [] := FR.nil _
 refine c_sp ?_
 refine x_u 1 [(2, .bool false)] ?_
 refine x_ek ?_
 refine c_sp ?_
 refine x_u 1 [(18, Vl a_p0 p0 c_p0)] ?_
 obtain ⟨x2, hx, h⟩ := bind_some h
 have hpk : MS w ([] ++ [M]) := hms.pick [some 0] _ rfl
 have hsb0 : ∀ x ∈ fl ([] ++ [M]), x ∈ fl [M] := pick_sub [some 0] _ rfl
 have hsb : ∀ x ∈ fl ([] ++ [(fl [M])]), x ∈ fl [M] := fun x hx => hsb0 x (fl_unfold x hx)
 have hcall := gen_New_w a_p0 c_p0 p0 _ w (fl [M]) (MS.fold (P := []) hpk) (hs_p0.sub hsb) hx
 refine x_call 6 #[] #[] [Vl a_p0 p0 c_p0] _ rfl rfl rfl rfl hcall ?_
 rintro v w3 ⟨b0_3, a1_3, c1_3, rfl, he3, hmn3, hfn3, hf3_1, hf3_2⟩
 clear hcall hx
 refine inl1 ?_
 have hpk2 : MS w ([] ++ [M]) := hms.pick [some 0] _ rfl
 have hsb2 : ∀ x ∈ fl ([] ++ [M]), x ∈ fl [M] := pick_sub [some 0] _ rfl
 have hst0 := Stp.call (LS := [M]) (res := [[b0_3]]) (par := []) (R := [M]) he3 (fun b hb => hsb2 b (fl_left' (P := []) b hb)) hfn3 (NP.init _ _) (fun x hx => hsb2 x (fl_right' (P := []) x hx))
 have hsn : ∀ x ∈ fl [[b0_3], M], x ∈ fl ([[b0_3]] ++ ([] ++ [M])) := pick_sub [some 0, some 1] _ rfl
 have hst := hst0.res hsn
 replace hs_p0 := hs_p0.step hst
 replace hms : MS w3 [[b0_3], M] := (MS.call (P := []) (R := [M]) (res := [[b0_3]]) (par := []) hpk2 he3 hmn3 hfn3 (NP.init _ _)).pick [some 0, some 1] _ rfl
 have hfr2 : FR w.heap.size [[b0_3]] := (FR.cons (fun b hb => Nat.le_trans hev.size (hfn3.at 0 rfl b hb)) (FR.nil _))
 replace hev := hev.ext he3
 replace hfr := hfr2
 clear hfr2
 have hsp : ∀ x ∈ fl [[b0_3], M], x ∈ fl ([[b0_3]] ++ ([] ++ [(fl [M])])) := fun x hx => fl_tot (res := [[b0_3]]) (par := []) (R := [M]) x (hsn x hx)
 replace hf3_2 := hf3_2.sub hsp
 clear hpk hsb hsb0 hpk2 hsb2 hst0 hsn hst
 refine x_u 1 [(3, Vp b0_3 0)] ?_
 refine x_ek ?_
 refine c_sp ?_
 refine x_u 1 [(21, Vp b0_3 0)] ?_
 obtain ⟨x6, hx, h⟩ := bind_some h
 have hpk : MS w3 ([[b0_3]] ++ [M]) := hms.pick [some 0, some 1] _ rfl
 have hsb0 : ∀ x ∈ fl ([[b0_3]] ++ [M]), x ∈ fl [[b0_3], M] := pick_sub [some 0, some 1] _ rfl
 have hsb : ∀ x ∈ fl ([[b0_3]] ++ [(fl [M])]), x ∈ fl [[b0_3], M] := fun x hx => hsb0 x (fl_unfold x hx)
 have hcall := law42_made_w b0_3 a1_3 c1_3 x2.1 x2.2 _ w3 (fl [M]) (hpk.fold (P := [[b0_3]])) (hf3_2.sub hsb) hf3_1 hx
 refine x_call 7 #[] #[] [Vp b0_3 0] _ rfl rfl rfl rfl hcall ?_
 rintro v w7 ⟨a0_7, c0_7, a2_7, c2_7, a4_7, c4_7, B6_7, rfl, he7, hp7_0, hmn7, hfn7, hf7_1, hf7_2, hf7_3⟩
 clear hcall hx
 refine inl1 ?_
 have hpk2 : MS w3 ([[b0_3]] ++ [M]) := hms.pick [some 0, some 1] _ rfl
 have hsb2 : ∀ x ∈ fl ([[b0_3]] ++ [M]), x ∈ fl [[b0_3], M] := pick_sub [some 0, some 1] _ rfl
 have hst0 := Stp.call (LS := [[b0_3], M]) (res := [blk a0_7, blk a2_7, B6_7]) (par := [[b0_3]]) (R := [M]) he7 (fun b hb => hsb2 b (fl_left' (P := [[b0_3]]) b hb)) hfn7 (NP.init _ _) (fun x hx => hsb2 x (fl_right' (P := [[b0_3]]) x hx))
 have hsn : ∀ x ∈ fl [blk a0_7, blk a2_7, B6_7, [b0_3], M], x ∈ fl ([blk a0_7, blk a2_7, B6_7] ++ ([[b0_3]] ++ [M])) := pick_sub [some 0, some 1, some 2, some 3, some 4] _ rfl
 have hst := hst0.res hsn
 replace hf3_2 := hf3_2.step hst
 replace hms : MS w7 [blk a0_7, blk a2_7, B6_7, [b0_3], M] := (MS.call (P := [[b0_3]]) (R := [M]) (res := [blk a0_7, blk a2_7, B6_7]) (par := [[b0_3]]) hpk2 he7 hmn7 hfn7 (NP.init _ _)).pick [some 0, some 1, some 2, some 3, some 4] _ rfl
 have hPf : ∀ b ∈ fl [[b0_3]], w.heap.size ≤ b := FR.mem (ls := [[b0_3]]) (hfr.pick [some 0] _ rfl)
 have hfr2 : FR w.heap.size [blk a0_7, blk a2_7, B6_7, [b0_3]] := (FR.cons (fun b hb => Nat.le_trans hev.size (hfn7.at 0 rfl b hb)) (FR.cons (fun b hb => Nat.le_trans hev.size (hfn7.at 1 rfl b hb)) (FR.cons (fun b hb => Nat.le_trans hev.size (hfn7.at 2 rfl b hb)) (FR.cons (hfr.at 0 rfl) (FR.nil _)))))
 replace hev := hev.then he7 (fun b hb => .inr (hPf b hb))
 replace hfr := hfr2
 clear hfr2
 replace hf3_1 := hp7_0
 replace hf7_1 := OwnS.plain (M' := fl [blk a0_7, blk a2_7, B6_7, [b0_3], M]) (plain_prod plain_str (plain_int _)) hf7_1
 replace hf7_2 := OwnS.plain (M' := fl [blk a0_7, blk a2_7, B6_7, [b0_3], M]) (plain_int _) hf7_2
 clear hpk hsb hsb0 hpk2 hsb2 hst0 hsn hst
 have hpk : MS w7 [blk a2_7, B6_7, [b0_3], M] := hms.pick [some 1, some 2, some 3, some 4] _ rfl
 have hsu : ∀ x ∈ fl [blk a2_7, B6_7, [b0_3], M], x ∈ fl [blk a0_7, blk a2_7, B6_7, [b0_3], M] := pick_sub [some 1, some 2, some 3, some 4] _ rfl
 replace hf3_2 := hf3_2.sub hsu
 replace hf7_1 := hf7_1.ro hsu (pick_out hms 0 rfl [some 1, some 2, some 3, some 4] [blk a2_7, B6_7, [b0_3], M] rfl rfl)
 replace hf7_2 := hf7_2.sub hsu
 replace hms := hpk
 replace hfr : FR w.heap.size [blk a2_7, B6_7, [b0_3]] := hfr.pick [some 1, some 2, some 3] _ rfl
 clear hpk hsu
 have hpk : MS w7 [B6_7, [b0_3], M] := hms.pick [some 1, some 2, some 3] _ rfl
 have hsu : ∀ x ∈ fl [B6_7, [b0_3], M], x ∈ fl [blk a2_7, B6_7, [b0_3], M] := pick_sub [some 1, some 2, some 3] _ rfl
 replace hf3_2 := hf3_2.sub hsu
 replace hf7_1 := hf7_1.sub hsu
 replace hf7_2 := hf7_2.ro hsu (pick_out hms 0 rfl [some 1, some 2, some 3] [B6_7, [b0_3], M] rfl rfl)
 replace hms := hpk
 replace hfr : FR w.heap.size [B6_7, [b0_3]] := hfr.pick [some 1, some 2] _ rfl
 clear hpk hsu
 have hpk : MS w7 [[b0_3], M] := hms.pick [some 1, some 2] _ rfl
 have hsu : ∀ x ∈ fl [[b0_3], M], x ∈ fl [B6_7, [b0_3], M] := pick_sub [some 1, some 2] _ rfl
 replace hf3_2 := hf3_2.sub hsu
 replace hf7_1 := hf7_1.sub hsu
 replace hf7_2 := hf7_2.sub hsu
 replace hf7_3 := hf7_3.ro (plain_int _) (pick_out hms 0 rfl [some 1, some 2] [[b0_3], M] rfl rfl)
 replace hms := hpk
 replace hfr : FR w.heap.size [[b0_3]] := hfr.pick [some 1] _ rfl
 clear hpk hsu
 refine x_u 7 [(20, .tuple #[Vl a0_7 x6.1 c0_7, Vl a2_7 x6.2.1 c2_7, Vl a4_7 x6.2.2.1 c4_7]), (23, Vl a0_7 x6.1 c0_7), (24, Vl a2_7 x6.2.1 c2_7), (25, Vl a4_7 x6.2.2.1 c4_7), (4, Vl a0_7 x6.1 c0_7), (5, Vl a2_7 x6.2.1 c2_7), (6, Vl a4_7 x6.2.2.1 c4_7)] ?_
 refine x_ek ?_
 refine c_seq ?_
 refine c_sp ?_
 refine x_u 1 [(7, Vi 0)] ?_
 refine x_ek ?_
 refine c_norm [(3, Vp b0_3 0), (4, Vl a0_7 x6.1 c0_7), (5, Vl a2_7 x6.2.1 c2_7), (6, Vl a4_7 x6.2.2.1 c4_7), (7, Vi 0)] ⟨rfl, rfl, rfl, rfl, rfl, trivial⟩ (fun J => ?_)
 refine c_block ?_
 obtain ⟨d11, hd11, h11⟩ := bind_some h
 obtain ⟨m11, hd11⟩ := loop_some hd11
 refine c_loop (loop_rule hmx (σ := Nat × Int × (List (List Int)) × Int × Option Addr × Nat) (fun s => match s with | (_, e4_l11_1, d10_l11, i_s7_l11, a10_l11, c10_l11) => [(3, Vp b0_3 0), (4, Vl a0_7 x6.1 c0_7), (5, Vl a2_7 x6.2.1 c2_7), (6, Vl a10_l11 d10_l11 c10_l11), (7, Vi i_s7_l11)]) (fun s w' => match s with | (m, e4_l11_1, d10_l11, i_s7_l11, a10_l11, c10_l11) => loopN (law42_InventoryConserves_L11 x2 x6) m (e4_l11_1, d10_l11, i_s7_l11) = some d11 ∧ Ev [] w w' ∧ MS w' [[b0_3], M] ∧ FR w.heap.size [[b0_3]] ∧ SlR (eInt .i64) w' (fl [[b0_3], M]) a1_3 c1_3 x2.1 ∧ w'.heap[b0_3]? = some (.cells #[Vl a1_3 x2.1 c1_3, Vi e4_l11_1] 52 (0, 0)) ∧ SlR (eProd eStr (eInt .i64)) w' (fl [[b0_3], M]) a0_7 c0_7 x6.1 ∧ SlR (eInt .i64) w' (fl [[b0_3], M]) a2_7 c2_7 x6.2.1 ∧ SlR (eSl (eInt .i64)) w' (fl [[b0_3], M]) a10_l11 c10_l11 d10_l11) (fun s => s.1) (m11, x6.2.2.2, x6.2.2.1, 0, a4_7, c4_7) ⟨rfl, rfl, rfl, rfl, rfl, trivial⟩ ⟨hd11, hev, hms, hfr, hf3_2, hf3_1, hf7_1, hf7_2, hf7_3⟩ ?_)
 rintro ⟨m11, e4_l11_1, d10_l11, i_s7_l11, a10_l11, c10_l11⟩ J wl11 ⟨hn11, hev, hms, hfr, hf3_2, hf3_1, hf7_1, hf7_2, hj10_l11⟩
 rcases m11 with _ | m11
 · exact (loopN_zero hn11).elim
 obtain ⟨t11, h, hn11⟩ := bind_some hn11
 refine c_seq ?_
 refine c_sp ?_
 refine x_u 2 [(26, Vi i_s7_l11), (27, .bool (decide (i_s7_l11 < 12)))] ?_
 refine x_ek ?_
 refine c_norm [(3, Vp b0_3 0), (4, Vl a0_7 x6.1 c0_7), (5, Vl a2_7 x6.2.1 c2_7), (6, Vl a10_l11 d10_l11 c10_l11), (7, Vi i_s7_l11), (27, .bool (decide (i_s7_l11 < 12)))] ⟨rfl, rfl, rfl, rfl, rfl, rfl, trivial⟩ (fun J => ?_)
 refine c_if (decide (i_s7_l11 < 12)) rfl h (fun h => ?_) (fun h => ?_)
 · refine c_skip ?_
   refine k_then ?_
   refine c_seq ?_
   refine c_block ?_
   refine c_sp ?_
   refine x_u 3 [(30, Vp b0_3 0), (31, Vl a2_7 x6.2.1 c2_7), (32, Vl a10_l11 d10_l11 c10_l11)] ?_
   obtain ⟨x13, hx, h⟩ := bind_some h
   have hpk : MS wl11 ([[b0_3]] ++ [M]) := hms.pick [some 0, some 1] _ rfl
   have hsb0 : ∀ x ∈ fl ([[b0_3]] ++ [M]), x ∈ fl [[b0_3], M] := pick_sub [some 0, some 1] _ rfl
   have hsb : ∀ x ∈ fl ([[b0_3]] ++ [(fl [M])]), x ∈ fl [[b0_3], M] := fun x hx => hsb0 x (fl_unfold x hx)
   have hcall := law42_shift_w b0_3 a1_3 c1_3 x2.1 e4_l11_1 a2_7 c2_7 x6.2.1 a10_l11 c10_l11 d10_l11 _ wl11 (fl [M]) (hpk.fold (P := [[b0_3]])) (hf3_2.sub hsb) hf3_1 (hf7_2.sub hsb) (hj10_l11.sub hsb) hx
   refine x_call 8 #[] #[] [Vp b0_3 0, Vl a2_7 x6.2.1 c2_7, Vl a10_l11 d10_l11 c10_l11] _ rfl rfl rfl rfl hcall ?_
   rintro v w14 ⟨rfl, he14, hp14_0⟩
   clear hcall hx
   refine inl1 ?_
   have hpk2 : MS wl11 ([[b0_3]] ++ [M]) := hms.pick [some 0, some 1] _ rfl
   have hsb2 : ∀ x ∈ fl ([[b0_3]] ++ [M]), x ∈ fl [[b0_3], M] := pick_sub [some 0, some 1] _ rfl
   have hst0 := Stp.call (LS := [[b0_3], M]) (res := []) (par := [[b0_3]]) (R := [M]) he14 (fun b hb => hsb2 b (fl_left' (P := [[b0_3]]) b hb)) (FR.nil _) (NP.init _ _) (fun x hx => hsb2 x (fl_right' (P := [[b0_3]]) x hx))
   have hsn : ∀ x ∈ fl [[b0_3], M], x ∈ fl ([] ++ ([[b0_3]] ++ [M])) := pick_sub [some 0, some 1] _ rfl
   have hst := hst0.res hsn
   replace hf3_2 := hf3_2.step hst
   replace hf7_1 := hf7_1.step hst
   replace hf7_2 := hf7_2.step hst
   replace hj10_l11 := hj10_l11.step hst
   replace hms := hms.ev he14
   have hPf : ∀ b ∈ fl [[b0_3]], w.heap.size ≤ b := FR.mem (ls := [[b0_3]]) (hfr.pick [some 0] _ rfl)
   replace hev := hev.then he14 (fun b hb => .inr (hPf b hb))
   replace hf3_1 := hp14_0
   clear hpk hsb hsb0 hpk2 hsb2 hst0 hsn hst
   refine x_alloc (z := .agg #[Vi 0, Vi 0, Vi 0, .bool false]) rfl rfl (by kernel_rfl) (fun b15 w15 hq15 hb15 he15 hz15 => ?_)
   replace hb15 : w15.heap[b15]? = some (.cells #[Vi 0, Vi 0, Vi 0, .bool false] 30 (0, 0)) := hb15
   refine inl1 ?_
   have hst := Stp.box (ls := [[b0_3], M]) he15 hq15
   replace hf3_1 := he15.box hf3_1 nn
   replace hf3_2 := hf3_2.step hst
   replace hf7_1 := hf7_1.step hst
   replace hf7_2 := hf7_2.step hst
   replace hj10_l11 := hj10_l11.step hst
   replace hms := hms.box he15 hq15 hb15
   replace hfr := hfr.box hev.size hq15
   replace hev := hev.ext he15
   obtain ⟨w17, hr17, hb17, he17⟩ := store_boxagg 0 [Vi x13.1.1, Vi x13.1.2.1, Vi x13.1.2.2.1, .bool x13.1.2.2.2] #[Vi x13.1.1, Vi x13.1.2.1, Vi x13.1.2.2.1, .bool x13.1.2.2.2] tagg30 hb15 rfl rfl rfl
   refine x_store w17 (xv := Vp b15 0) (yv := .agg #[Vi x13.1.1, Vi x13.1.2.1, Vi x13.1.2.2.1, .bool x13.1.2.2.2]) rfl rfl rfl rfl hr17 ?_
   refine inl1 ?_
   have hst := Stp.ev' (ls := [[b15], [b0_3], M]) he17 (mem_flat 0 rfl)
   replace hf3_1 := he17.box hf3_1 (hms.apart 1 0 rfl rfl rfl _ mem1)
   replace hf3_2 := hf3_2.step hst
   replace hf7_1 := hf7_1.step hst
   replace hf7_2 := hf7_2.step hst
   replace hj10_l11 := hj10_l11.step hst
   replace hms := hms.ev he17
   replace hev := hev.then he17 (fun b hb => .inr (hfr.at 0 rfl b hb))
   replace hb15 := hb17
   refine x_ek ?_
   refine c_sp ?_
   refine x_u 3 [(35, Vl a0_7 x6.1 c0_7), (36, Vl a2_7 x6.2.1 c2_7), (37, Vl a10_l11 d10_l11 c10_l11)] ?_
   refine x_load (xv := Vp b15 0) (.agg #[Vi x13.1.1, Vi x13.1.2.1, Vi x13.1.2.2.1, .bool x13.1.2.2.2]) rfl rfl rfl (reads_boxagg 0 [Vi x13.1.1, Vi x13.1.2.1, Vi x13.1.2.2.1, .bool x13.1.2.2.2] tagg30 hb15 nn rfl) ?_
   obtain ⟨x18, hx, h⟩ := bind_some h
   have hpk : MS w17 ([] ++ [[b15], [b0_3], M]) := hms.pick [some 0, some 1, some 2] _ rfl
   have hsb0 : ∀ x ∈ fl ([] ++ [[b15], [b0_3], M]), x ∈ fl [[b15], [b0_3], M] := pick_sub [some 0, some 1, some 2] _ rfl
   have hsb : ∀ x ∈ fl ([] ++ [(fl [[b15], [b0_3], M])]), x ∈ fl [[b15], [b0_3], M] := fun x hx => hsb0 x (fl_unfold x hx)
   have hcall := inventory_Apply_w a0_7 c0_7 x6.1 a2_7 c2_7 x6.2.1 a10_l11 c10_l11 d10_l11 x13.1.1 x13.1.2.1 x13.1.2.2.1 x13.1.2.2.2 _ w17 (fl [[b15], [b0_3], M]) (MS.fold (P := []) hpk) (hf7_1.sub hsb) (hf7_2.sub hsb) (hj10_l11.sub hsb) hx
   refine x_call 9 #[] #[] [Vl a0_7 x6.1 c0_7, Vl a2_7 x6.2.1 c2_7, Vl a10_l11 d10_l11 c10_l11, .agg #[Vi x13.1.1, Vi x13.1.2.1, Vi x13.1.2.2.1, .bool x13.1.2.2.2]] _ rfl rfl rfl rfl hcall ?_
   rintro v w19 ⟨a0_19, c0_19, B2_19, rfl, he19, hmn19, hfn19, hf19_1⟩
   clear hcall hx
   refine inl1 ?_
   have hpk2 : MS w17 ([] ++ [[b15], [b0_3], M]) := hms.pick [some 0, some 1, some 2] _ rfl
   have hsb2 : ∀ x ∈ fl ([] ++ [[b15], [b0_3], M]), x ∈ fl [[b15], [b0_3], M] := pick_sub [some 0, some 1, some 2] _ rfl
   have hst0 := Stp.call (LS := [[b15], [b0_3], M]) (res := [B2_19]) (par := []) (R := [[b15], [b0_3], M]) he19 (fun b hb => hsb2 b (fl_left' (P := []) b hb)) hfn19 (NP.init _ _) (fun x hx => hsb2 x (fl_right' (P := []) x hx))
   have hsn : ∀ x ∈ fl [B2_19, [b15], [b0_3], M], x ∈ fl ([B2_19] ++ ([] ++ [[b15], [b0_3], M])) := pick_sub [some 0, some 1, some 2, some 3] _ rfl
   have hst := hst0.res hsn
   replace hf3_1 := he19.box hf3_1 ((MS.outs (P := []) hpk2 1 rfl) _ mem1)
   replace hf3_2 := hf3_2.step hst
   replace hf7_1 := hf7_1.step hst
   replace hf7_2 := hf7_2.step hst
   replace hj10_l11 := hj10_l11.step hst
   replace hb15 := he19.box hb15 ((MS.outs (P := []) hpk2 0 rfl) _ mem1)
   replace hms : MS w19 [B2_19, [b15], [b0_3], M] := (MS.call (P := []) (R := [[b15], [b0_3], M]) (res := [B2_19]) (par := []) hpk2 he19 hmn19 hfn19 (NP.init _ _)).pick [some 0, some 1, some 2, some 3] _ rfl
   have hfr2 : FR w.heap.size [B2_19, [b15], [b0_3]] := (FR.cons (fun b hb => Nat.le_trans hev.size (hfn19.at 0 rfl b hb)) (FR.cons (hfr.at 0 rfl) (FR.cons (hfr.at 1 rfl) (FR.nil _))))
   replace hev := hev.ext he19
   replace hfr := hfr2
   clear hfr2
   clear hpk hsb hsb0 hpk2 hsb2 hst0 hsn hst
   have hpk : MS w19 [[b15], [b0_3], M] := hms.pick [some 1, some 2, some 3] _ rfl
   have hsu : ∀ x ∈ fl [[b15], [b0_3], M], x ∈ fl [B2_19, [b15], [b0_3], M] := pick_sub [some 1, some 2, some 3] _ rfl
   replace hf3_2 := hf3_2.sub hsu
   replace hf7_1 := hf7_1.sub hsu
   replace hf7_2 := hf7_2.sub hsu
   replace hj10_l11 := hj10_l11.sub hsu
   replace hf19_1 := hf19_1.ro (plain_int _) (pick_out hms 0 rfl [some 1, some 2, some 3] [[b15], [b0_3], M] rfl rfl)
   replace hms := hpk
   replace hfr : FR w.heap.size [[b15], [b0_3]] := hfr.pick [some 1, some 2] _ rfl
   clear hpk hsu
   refine x_u 5 [(34, .tuple #[Vl a0_19 x18.1 c0_19, Vi x18.2]), (40, Vl a0_19 x18.1 c0_19), (41, Vi x18.2), (9, Vl a0_19 x18.1 c0_19), (10, Vi x18.2)] ?_
   refine x_ek ?_
   refine c_norm [(3, Vp b0_3 0), (4, Vl a0_7 x6.1 c0_7), (5, Vl a2_7 x6.2.1 c2_7), (6, Vl a10_l11 d10_l11 c10_l11), (7, Vi i_s7_l11), (8, Vp b15 0), (9, Vl a0_19 x18.1 c0_19), (10, Vi x18.2)] ⟨rfl, rfl, rfl, rfl, rfl, rfl, rfl, rfl, trivial⟩ (fun J => ?_)
   refine c_seq ?_
   refine c_sp ?_
   refine x_u 2 [(42, Vi x18.2), (43, .bool (x18.2 != 0))] ?_
   refine x_ek ?_
   refine c_if (x18.2 != 0) rfl h (fun h => ?_) (fun h => ?_)
   · refine c_exit ?_
     refine k_then_exit ?_
     refine k_block_in ?_
     refine k_then ?_
     refine c_plain ?_
     refine x_u 3 [(28, Vi i_s7_l11), (29, Vi (IntKind.i64.wrap (i_s7_l11 + 1))), (7, Vi (IntKind.i64.wrap (i_s7_l11 + 1)))] ?_
     refine x_end rfl ?_
     have hx := some_inj h
     subst hx
     have hpk : MS w19 [[b0_3], M] := hms.pick [some 1, some 2] _ rfl
     have hsu : ∀ x ∈ fl [[b0_3], M], x ∈ fl [[b15], [b0_3], M] := pick_sub [some 1, some 2] _ rfl
     replace hf3_2 := hf3_2.sub hsu
     replace hf7_1 := hf7_1.sub hsu
     replace hf7_2 := hf7_2.sub hsu
     replace hj10_l11 := hj10_l11.sub hsu
     replace hms := hpk
     replace hfr : FR w.heap.size [[b0_3]] := hfr.pick [some 1] _ rfl
     clear hpk hsu
     exact k_then ⟨(m11, x13.2, d10_l11, IntKind.i64.wrap (i_s7_l11 + 1), a10_l11, c10_l11), ⟨rfl, rfl, rfl, rfl, rfl, trivial⟩, ⟨hn11, hev, hms, hfr, hf3_2, hf3_1, hf7_1, hf7_2, hj10_l11⟩, Nat.lt_succ_self _⟩
   refine c_skip ?_
   refine k_then ?_
   refine c_sp ?_
   refine x_u 1 [(45, Vl a0_19 x18.1 c0_19)] ?_
   refine x_fieldAddr (xv := Vp b15 0) (Vp b15 0) rfl rfl rfl (reads_field tfld30_0 _ _) ?_
   refine x_load (xv := Vp b15 0) (Vi x13.1.1) rfl rfl rfl (reads_box tcell3 hb15 nn 0 _ rfl) ?_
   obtain ⟨x22, hx, h⟩ := bind_some h
   have hpk : MS w19 ([] ++ [[b15], [b0_3], M]) := hms.pick [some 0, some 1, some 2] _ rfl
   have hsb0 : ∀ x ∈ fl ([] ++ [[b15], [b0_3], M]), x ∈ fl [[b15], [b0_3], M] := pick_sub [some 0, some 1, some 2] _ rfl
   have hsb : ∀ x ∈ fl ([] ++ [(fl [[b15], [b0_3], M])]), x ∈ fl [[b15], [b0_3], M] := fun x hx => hsb0 x (fl_unfold x hx)
   have hcall := inventory_Where_w a0_19 c0_19 x18.1 x13.1.1 _ w19 (fl [[b15], [b0_3], M]) (MS.fold (P := []) hpk) (hf19_1.sub hsb) hx
   refine x_call 10 #[] #[] [Vl a0_19 x18.1 c0_19, Vi x13.1.1] _ rfl rfl rfl rfl hcall ?_
   rintro v w23 ⟨rfl, he23⟩
   clear hcall hx
   refine inl1 ?_
   have hst := Stp.ext (ls := [[b15], [b0_3], M]) he23
   replace hf3_1 := he23.box hf3_1 nn
   replace hf3_2 := hf3_2.step hst
   replace hf7_1 := hf7_1.step hst
   replace hf7_2 := hf7_2.step hst
   replace hj10_l11 := hj10_l11.step hst
   replace hb15 := he23.box hb15 nn
   replace hf19_1 := hf19_1.step hst
   replace hms := hms.ev he23
   replace hev := hev.ext he23
   clear hpk hsb hsb0
   refine x_u 5 [(44, .tuple #[Vi x22.1, Vi x22.2]), (49, Vi x22.1), (50, Vi x22.2), (11, Vi x22.1), (12, Vi x22.2)] ?_
   refine x_ek ?_
   refine c_seq ?_
   refine c_sp ?_
   refine x_u 3 [(51, Vl a0_7 x6.1 c0_7), (52, Vl a2_7 x6.2.1 c2_7), (53, Vl a0_19 x18.1 c0_19)] ?_
   obtain ⟨x25, hx, h⟩ := bind_some h
   have hpk : MS w23 ([] ++ [[b15], [b0_3], M]) := hms.pick [some 0, some 1, some 2] _ rfl
   have hsb0 : ∀ x ∈ fl ([] ++ [[b15], [b0_3], M]), x ∈ fl [[b15], [b0_3], M] := pick_sub [some 0, some 1, some 2] _ rfl
   have hsb : ∀ x ∈ fl ([] ++ [(fl [[b15], [b0_3], M])]), x ∈ fl [[b15], [b0_3], M] := fun x hx => hsb0 x (fl_unfold x hx)
   have hcall := inventory_Valid_w a0_7 c0_7 x6.1 a2_7 c2_7 x6.2.1 a0_19 c0_19 x18.1 _ w23 (fl [[b15], [b0_3], M]) (MS.fold (P := []) hpk) (hf7_1.sub hsb) (hf7_2.sub hsb) (hf19_1.sub hsb) hx
   refine x_call 11 #[] #[] [Vl a0_7 x6.1 c0_7, Vl a2_7 x6.2.1 c2_7, Vl a0_19 x18.1 c0_19] _ rfl rfl rfl rfl hcall ?_
   rintro v w26 ⟨rfl, he26⟩
   clear hcall hx
   refine inl1 ?_
   have hst := Stp.ext (ls := [[b15], [b0_3], M]) he26
   replace hf3_1 := he26.box hf3_1 nn
   replace hf3_2 := hf3_2.step hst
   replace hf7_1 := hf7_1.step hst
   replace hf7_2 := hf7_2.step hst
   replace hj10_l11 := hj10_l11.step hst
   replace hb15 := he26.box hb15 nn
   replace hf19_1 := hf19_1.step hst
   replace hms := hms.ev he26
   replace hev := hev.ext he26
   clear hpk hsb hsb0
   refine x_u 2 [(55, .bool (!x25)), (56, .bool (!x25))] ?_
   refine x_if 56 (!x25) rfl h (fun h => ?_) (fun h => ?_)
   · refine x_u 12 [(57, undef), (58, undef), (59, undef), (60, undef), (61, .bool true), (62, .bool true), (63, undef), (64, undef), (65, undef), (66, undef), (67, undef), (68, .bool true)] ?_
     refine x_ek ?_
     refine c_norm [(3, Vp b0_3 0), (4, Vl a0_7 x6.1 c0_7), (5, Vl a2_7 x6.2.1 c2_7), (6, Vl a10_l11 d10_l11 c10_l11), (7, Vi i_s7_l11), (8, Vp b15 0), (9, Vl a0_19 x18.1 c0_19), (12, Vi x22.2), (68, .bool true)] ⟨rfl, rfl, rfl, rfl, rfl, rfl, rfl, rfl, rfl, trivial⟩ (fun J => ?_)
     refine c_true rfl ?_
     refine c_sp ?_
     refine x_u 1 [(2, .bool false)] ?_
     refine x_ek ?_
     refine c_ret ?_
     refine k_then_ret ?_
     refine k_block_ret ?_
     refine k_then_ret ?_
     have hx := some_inj h
     subst hx
     have hy := some_inj hn11
     subst hy
     replace h := h11
     refine k_then_ret ?_
     refine k_block_ret ?_
     refine k_then_ret ?_
     refine r_ret (r_vals [.bool false] ⟨rfl, trivial⟩ ?_)
     have hx := some_inj h
     subst hx
     have hmr : MS w26 [M] := hms.pick [some 2] _ rfl
     have hsu : ∀ x ∈ fl [M], x ∈ fl [[b15], [b0_3], M] := pick_sub [some 2] _ rfl
     exact ⟨rfl, hev⟩
   refine x_u 1 [(57, Vi x22.1)] ?_
   refine x_fieldAddr (xv := Vp b15 0) (Vp b15 2) rfl rfl rfl (reads_field tfld30_2 _ _) ?_
   refine x_load (xv := Vp b15 2) (Vi x13.1.2.2.1) rfl rfl rfl (reads_box tcell3 hb15 nn 2 _ rfl) ?_
   refine x_u 3 [(60, .bool (x22.1 != x13.1.2.2.1)), (61, .bool (x22.1 != x13.1.2.2.1)), (62, .bool (x22.1 != x13.1.2.2.1))] ?_
   refine x_if 62 (x22.1 != x13.1.2.2.1) rfl h (fun h => ?_) (fun h => ?_)
   · refine x_u 6 [(63, undef), (64, undef), (65, undef), (66, undef), (67, undef), (68, .bool true)] ?_
     refine x_ek ?_
     refine c_norm [(3, Vp b0_3 0), (4, Vl a0_7 x6.1 c0_7), (5, Vl a2_7 x6.2.1 c2_7), (6, Vl a10_l11 d10_l11 c10_l11), (7, Vi i_s7_l11), (8, Vp b15 0), (9, Vl a0_19 x18.1 c0_19), (12, Vi x22.2), (68, .bool true)] ⟨rfl, rfl, rfl, rfl, rfl, rfl, rfl, rfl, rfl, trivial⟩ (fun J => ?_)
     refine c_true rfl ?_
     refine c_sp ?_
     refine x_u 1 [(2, .bool false)] ?_
     refine x_ek ?_
     refine c_ret ?_
     refine k_then_ret ?_
     refine k_block_ret ?_
     refine k_then_ret ?_
     have hx := some_inj h
     subst hx
     have hy := some_inj hn11
     subst hy
     replace h := h11
     refine k_then_ret ?_
     refine k_block_ret ?_
     refine k_then_ret ?_
     refine r_ret (r_vals [.bool false] ⟨rfl, trivial⟩ ?_)
     have hx := some_inj h
     subst hx
     have hmr : MS w26 [M] := hms.pick [some 2] _ rfl
     have hsu : ∀ x ∈ fl [M], x ∈ fl [[b15], [b0_3], M] := pick_sub [some 2] _ rfl
     exact ⟨rfl, hev⟩
   refine x_u 1 [(63, Vl a0_19 x18.1 c0_19)] ?_
   refine x_len (vs := [Vl a0_19 x18.1 c0_19]) (Vi ((x18.1).length : Int)) rfl rfl rfl (reads_len tsl26 _ _ _ _ _) ?_
   refine x_u 1 [(65, Vl a10_l11 d10_l11 c10_l11)] ?_
   refine x_len (vs := [Vl a10_l11 d10_l11 c10_l11]) (Vi ((d10_l11).length : Int)) rfl rfl rfl (reads_len tsl26 _ _ _ _ _) ?_
   refine x_u 2 [(67, .bool (((x18.1).length : Int) != ((d10_l11).length : Int))), (68, .bool (((x18.1).length : Int) != ((d10_l11).length : Int)))] ?_
   refine x_ek ?_
   refine c_norm [(3, Vp b0_3 0), (4, Vl a0_7 x6.1 c0_7), (5, Vl a2_7 x6.2.1 c2_7), (6, Vl a10_l11 d10_l11 c10_l11), (7, Vi i_s7_l11), (8, Vp b15 0), (9, Vl a0_19 x18.1 c0_19), (12, Vi x22.2), (68, .bool (((x18.1).length : Int) != ((d10_l11).length : Int)))] ⟨rfl, rfl, rfl, rfl, rfl, rfl, rfl, rfl, rfl, trivial⟩ (fun J => ?_)
   refine c_if (((x18.1).length : Int) != ((d10_l11).length : Int)) rfl h (fun h => ?_) (fun h => ?_)
   · refine c_sp ?_
     refine x_u 1 [(2, .bool false)] ?_
     refine x_ek ?_
     refine c_ret ?_
     refine k_then_ret ?_
     refine k_block_ret ?_
     refine k_then_ret ?_
     have hx := some_inj h
     subst hx
     have hy := some_inj hn11
     subst hy
     replace h := h11
     refine k_then_ret ?_
     refine k_block_ret ?_
     refine k_then_ret ?_
     refine r_ret (r_vals [.bool false] ⟨rfl, trivial⟩ ?_)
     have hx := some_inj h
     subst hx
     have hmr : MS w26 [M] := hms.pick [some 2] _ rfl
     have hsu : ∀ x ∈ fl [M], x ∈ fl [[b15], [b0_3], M] := pick_sub [some 2] _ rfl
     exact ⟨rfl, hev⟩
   refine c_skip ?_
   refine k_then ?_
   refine c_seq ?_
   refine c_sp ?_
   refine x_u 1 [(13, Vi 0)] ?_
   refine x_ek ?_
   refine c_block ?_
   have hpk : MS w26 [[b0_3], [b15], M] := hms.pick [some 1, some 0, some 2] _ rfl
   have hsu : ∀ x ∈ fl [[b0_3], [b15], M], x ∈ fl [[b15], [b0_3], M] := pick_sub [some 1, some 0, some 2] _ rfl
   replace hf3_2 := hf3_2.sub hsu
   replace hf7_1 := hf7_1.sub hsu
   replace hf7_2 := hf7_2.sub hsu
   replace hj10_l11 := hj10_l11.sub hsu
   replace hf19_1 := hf19_1.sub hsu
   replace hms := hpk
   replace hfr : FR w.heap.size [[b0_3], [b15]] := hfr.pick [some 1, some 0] _ rfl
   clear hpk hsu
   obtain ⟨d27, hd27, h27⟩ := bind_some h
   obtain ⟨m27, hd27⟩ := loop_some hd27
   refine c_loop (loop_rule hmx (σ := Nat × Int) (fun s => match s with | (_, j_s13_l27) => [(3, Vp b0_3 0), (4, Vl a0_7 x6.1 c0_7), (5, Vl a2_7 x6.2.1 c2_7), (6, Vl a10_l11 d10_l11 c10_l11), (7, Vi i_s7_l11), (8, Vp b15 0), (9, Vl a0_19 x18.1 c0_19), (12, Vi x22.2), (13, Vi j_s13_l27)]) (fun s w' => match s with | (m, j_s13_l27) => loopN (law42_InventoryConserves_L27 d10_l11 x13 x18 x22) m j_s13_l27 = some d27 ∧ Ev [] w w' ∧ MS w' [[b0_3], [b15], M] ∧ FR w.heap.size [[b0_3], [b15]] ∧ SlR (eInt .i64) w' (fl [[b0_3], [b15], M]) a1_3 c1_3 x2.1 ∧ w'.heap[b0_3]? = some (.cells #[Vl a1_3 x2.1 c1_3, Vi x13.2] 52 (0, 0)) ∧ SlR (eProd eStr (eInt .i64)) w' (fl [[b0_3], [b15], M]) a0_7 c0_7 x6.1 ∧ SlR (eInt .i64) w' (fl [[b0_3], [b15], M]) a2_7 c2_7 x6.2.1 ∧ SlR (eSl (eInt .i64)) w' (fl [[b0_3], [b15], M]) a10_l11 c10_l11 d10_l11 ∧ w'.heap[b15]? = some (.cells #[Vi x13.1.1, Vi x13.1.2.1, Vi x13.1.2.2.1, .bool x13.1.2.2.2] 30 (0, 0)) ∧ SlR (eSl (eInt .i64)) w' (fl [[b0_3], [b15], M]) a0_19 c0_19 x18.1) (fun s => s.1) (m27, 0) ⟨rfl, rfl, rfl, rfl, rfl, rfl, rfl, rfl, rfl, trivial⟩ ⟨hd27, hev, hms, hfr, hf3_2, hf3_1, hf7_1, hf7_2, hj10_l11, hb15, hf19_1⟩ ?_)
   rintro ⟨m27, j_s13_l27⟩ J wl27 ⟨hn27, hev, hms, hfr, hf3_2, hf3_1, hf7_1, hf7_2, hj10_l11, hb15, hf19_1⟩
   rcases m27 with _ | m27
   · exact (loopN_zero hn27).elim
   obtain ⟨t27, h, hn27⟩ := bind_some hn27
   refine c_seq ?_
   refine c_sp ?_
   refine x_u 2 [(69, Vi j_s13_l27), (70, Vl a10_l11 d10_l11 c10_l11)] ?_
   refine x_len (vs := [Vl a10_l11 d10_l11 c10_l11]) (Vi ((d10_l11).length : Int)) rfl rfl rfl (reads_len tsl26 _ _ _ _ _) ?_
   refine x_u 1 [(72, .bool (decide (j_s13_l27 < ((d10_l11).length : Int))))] ?_
   refine x_ek ?_
   refine c_norm [(3, Vp b0_3 0), (4, Vl a0_7 x6.1 c0_7), (5, Vl a2_7 x6.2.1 c2_7), (6, Vl a10_l11 d10_l11 c10_l11), (7, Vi i_s7_l11), (8, Vp b15 0), (9, Vl a0_19 x18.1 c0_19), (12, Vi x22.2), (13, Vi j_s13_l27), (72, .bool (decide (j_s13_l27 < ((d10_l11).length : Int))))] ⟨rfl, rfl, rfl, rfl, rfl, rfl, rfl, rfl, rfl, rfl, trivial⟩ (fun J => ?_)
   refine c_if (decide (j_s13_l27 < ((d10_l11).length : Int))) rfl h (fun h => ?_) (fun h => ?_)
   · refine c_skip ?_
     refine k_then ?_
     refine c_seq ?_
     refine c_block ?_
     refine c_sp ?_
     refine x_u 2 [(14, .slice none 0 0), (15, .slice none 0 0)] ?_
     refine x_ek ?_
     refine c_seq ?_
     refine c_sp ?_
     refine x_u 1 [(16, Vi 0)] ?_
     refine x_ek ?_
     refine c_block ?_
     have hst := Stp.push (ls := [[b0_3], [b15], M]) (l := blk none) (Ev.refl [] wl27) (fun _ h => by cases h) (fun _ h => by cases h)
     replace hf3_1 := (Ev.refl [] _).box hf3_1 nn
     replace hf3_2 := hf3_2.step hst
     replace hf7_1 := hf7_1.step hst
     replace hf7_2 := hf7_2.step hst
     replace hj10_l11 := hj10_l11.step hst
     replace hb15 := (Ev.refl [] _).box hb15 nn
     replace hf19_1 := hf19_1.step hst
     replace hms := hms.push (l := blk none) (Ev.refl [] _) (fun _ h => by cases h)
     replace hfr := hfr.push (l := blk none) (fun _ h => by cases h)
     have ho31 := OwnS.nil (eInt .i64) 3 wl27 (fl [blk none, [b0_3], [b15], M])
     have hpk : MS wl27 [[b0_3], [b15], blk none, M] := hms.pick [some 1, some 2, some 0, some 3] _ rfl
     have hsu : ∀ x ∈ fl [[b0_3], [b15], blk none, M], x ∈ fl [blk none, [b0_3], [b15], M] := pick_sub [some 1, some 2, some 0, some 3] _ rfl
     replace hf3_2 := hf3_2.sub hsu
     replace hf7_1 := hf7_1.sub hsu
     replace hf7_2 := hf7_2.sub hsu
     replace hj10_l11 := hj10_l11.sub hsu
     replace hf19_1 := hf19_1.sub hsu
     replace ho31 := ho31.sub hsu
     replace hms := hpk
     replace hfr : FR w.heap.size [[b0_3], [b15], blk none] := hfr.pick [some 1, some 2, some 0] _ rfl
     clear hpk hsu
     obtain ⟨d30, hd30, h30⟩ := bind_some h
     obtain ⟨m30, hd30⟩ := loop_some hd30
     refine c_loop (loop_rule hmx (σ := Nat × (List Int) × Int × Option Addr × Nat) (fun s => match s with | (_, d32_l30, x_s16_l30, a32_l30, c32_l30) => [(3, Vp b0_3 0), (4, Vl a0_7 x6.1 c0_7), (5, Vl a2_7 x6.2.1 c2_7), (6, Vl a10_l11 d10_l11 c10_l11), (7, Vi i_s7_l11), (8, Vp b15 0), (9, Vl a0_19 x18.1 c0_19), (12, Vi x22.2), (13, Vi j_s13_l27), (14, Vl a32_l30 d32_l30 c32_l30), (15, .slice none 0 0), (16, Vi x_s16_l30)]) (fun s w' => match s with | (m, d32_l30, x_s16_l30, a32_l30, c32_l30) => loopN (law42_InventoryConserves_L30 d10_l11 x13 j_s13_l27) m (d32_l30, x_s16_l30) = some d30 ∧ Ev [] w w' ∧ MS w' [[b0_3], [b15], blk a32_l30, M] ∧ FR w.heap.size [[b0_3], [b15], blk a32_l30] ∧ SlR (eInt .i64) w' (fl [[b0_3], [b15], blk a32_l30, M]) a1_3 c1_3 x2.1 ∧ w'.heap[b0_3]? = some (.cells #[Vl a1_3 x2.1 c1_3, Vi x13.2] 52 (0, 0)) ∧ SlR (eProd eStr (eInt .i64)) w' (fl [[b0_3], [b15], blk a32_l30, M]) a0_7 c0_7 x6.1 ∧ SlR (eInt .i64) w' (fl [[b0_3], [b15], blk a32_l30, M]) a2_7 c2_7 x6.2.1 ∧ SlR (eSl (eInt .i64)) w' (fl [[b0_3], [b15], blk a32_l30, M]) a10_l11 c10_l11 d10_l11 ∧ w'.heap[b15]? = some (.cells #[Vi x13.1.1, Vi x13.1.2.1, Vi x13.1.2.2.1, .bool x13.1.2.2.2] 30 (0, 0)) ∧ SlR (eSl (eInt .i64)) w' (fl [[b0_3], [b15], blk a32_l30, M]) a0_19 c0_19 x18.1 ∧ OwnS (eInt .i64) 3 w' (fl [[b0_3], [b15], blk a32_l30, M]) a32_l30 c32_l30 d32_l30) (fun s => s.1) (m30, ([] : List Int), 0, none, 0) ⟨rfl, rfl, rfl, rfl, rfl, rfl, rfl, rfl, rfl, rfl, rfl, rfl, trivial⟩ ⟨hd30, hev, hms, hfr, hf3_2, hf3_1, hf7_1, hf7_2, hj10_l11, hb15, hf19_1, ho31⟩ ?_)
     rintro ⟨m30, d32_l30, x_s16_l30, a32_l30, c32_l30⟩ J wl30 ⟨hn30, hev, hms, hfr, hf3_2, hf3_1, hf7_1, hf7_2, hj10_l11, hb15, hf19_1, hj32_l30⟩
     rcases m30 with _ | m30
     · exact (loopN_zero hn30).elim
     obtain ⟨t30, h, hn30⟩ := bind_some hn30
     refine c_seq ?_
     refine c_sp ?_
     refine x_u 3 [(75, Vi x_s16_l30), (76, Vl a10_l11 d10_l11 c10_l11), (77, Vi j_s13_l27)] ?_
     obtain ⟨x36, hx36, h⟩ := bind_some h
     obtain ⟨ad36, cs36, hr36, hc36, hR⟩ := reads_index (Mo := []) tsl26 hj10_l11 hx36
     obtain ⟨a37, c37, rfl, hs37⟩ := hR
     refine x_indexAddr (xv := Vl a10_l11 d10_l11 c10_l11) (yv := Vi j_s13_l27) (.pointer (some ad36)) rfl rfl rfl rfl hr36 ?_
     refine x_load (xv := .pointer (some ad36)) (Vl a37 x36 c37) rfl rfl rfl (reads_cell0 tcell22 hc36 (fun _ h => by cases h)) ?_
     refine x_len (vs := [Vl a37 x36 c37]) (Vi ((x36).length : Int)) rfl rfl rfl (reads_len tsl22 _ _ _ _ _) ?_
     refine x_u 1 [(81, .bool (decide (x_s16_l30 < ((x36).length : Int))))] ?_
     refine x_ek ?_
     refine c_norm [(3, Vp b0_3 0), (4, Vl a0_7 x6.1 c0_7), (5, Vl a2_7 x6.2.1 c2_7), (6, Vl a10_l11 d10_l11 c10_l11), (7, Vi i_s7_l11), (8, Vp b15 0), (9, Vl a0_19 x18.1 c0_19), (12, Vi x22.2), (13, Vi j_s13_l27), (14, Vl a32_l30 d32_l30 c32_l30), (15, .slice none 0 0), (16, Vi x_s16_l30), (81, .bool (decide (x_s16_l30 < ((x36).length : Int))))] ⟨rfl, rfl, rfl, rfl, rfl, rfl, rfl, rfl, rfl, rfl, rfl, rfl, rfl, trivial⟩ (fun J => ?_)
     refine c_if (decide (x_s16_l30 < ((x36).length : Int))) rfl h (fun h => ?_) (fun h => ?_)
     · refine c_skip ?_
       refine k_then ?_
       refine c_seq ?_
       refine c_block ?_
       refine c_seq ?_
       refine c_drawn [] [(0, false), (1, false), (2, false), (3, false), (4, false), (5, false), (6, false), (7, false), (8, false), (9, false)] _ (by kernel_rfl) rfl ?_
       have hst := Stp.ext (ls := [[b0_3], [b15], blk a32_l30, M]) (Ev.drew wl30)
       replace hf3_1 := (Ev.drew wl30).box hf3_1 nn
       replace hf3_2 := hf3_2.step hst
       replace hf7_1 := hf7_1.step hst
       replace hf7_2 := hf7_2.step hst
       replace hj10_l11 := hj10_l11.step hst
       replace hb15 := (Ev.drew wl30).box hb15 nn
       replace hf19_1 := hf19_1.step hst
       replace hj32_l30 := hj32_l30.step hst (Ev.drew wl30) nn2
       replace hms := hms.ev (Ev.drew wl30)
       replace hev := hev.ext (Ev.drew wl30)
       refine x_u 2 [(84, Vl a10_l11 d10_l11 c10_l11), (85, Vi j_s13_l27)] ?_
       obtain ⟨x40, hx40, h⟩ := bind_some h
       obtain ⟨ad40, cs40, hr40, hc40, hR⟩ := reads_index (Mo := []) tsl26 hj10_l11 hx40
       obtain ⟨a41, c41, rfl, hs41⟩ := hR
       refine x_indexAddr (xv := Vl a10_l11 d10_l11 c10_l11) (yv := Vi j_s13_l27) (.pointer (some ad40)) rfl rfl rfl rfl hr40 ?_
       refine x_load (xv := .pointer (some ad40)) (Vl a41 x40 c41) rfl rfl rfl (reads_cell0 tcell22 hc40 (fun _ h => by cases h)) ?_
       refine x_u 1 [(88, Vi x_s16_l30)] ?_
       obtain ⟨x44, hx44, h⟩ := bind_some h
       obtain ⟨ad44, cs44, hr44, hc44, hR⟩ := reads_index (Mo := []) tsl22 hs41 hx44
       obtain rfl := hR
       refine x_indexAddr (xv := Vl a41 x40 c41) (yv := Vi x_s16_l30) (.pointer (some ad44)) rfl rfl rfl rfl hr44 ?_
       refine x_load (xv := .pointer (some ad44)) (Vi x44) rfl rfl rfl (reads_cell0 tcell3 hc44 (fun _ h => by cases h)) ?_
       refine x_fieldAddr (xv := Vp b15 0) (Vp b15 0) rfl rfl rfl (reads_field tfld30_0 _ _) ?_
       refine x_load (xv := Vp b15 0) (Vi x13.1.1) rfl rfl rfl (reads_box tcell3 hb15 nn 0 _ rfl) ?_
       refine x_u 1 [(93, .bool (x44 != x13.1.1))] ?_
       refine x_ek ?_
       refine c_if (x44 != x13.1.1) rfl h (fun h => ?_) (fun h => ?_)
       · refine c_plain ?_
         refine x_u 3 [(94, Vl a32_l30 d32_l30 c32_l30), (95, Vl a10_l11 d10_l11 c10_l11), (96, Vi j_s13_l27)] ?_
         obtain ⟨x46, hx46, h⟩ := bind_some h
         obtain ⟨ad46, cs46, hr46, hc46, hR⟩ := reads_index (Mo := []) tsl26 hj10_l11 hx46
         obtain ⟨a47, c47, rfl, hs47⟩ := hR
         refine x_indexAddr (xv := Vl a10_l11 d10_l11 c10_l11) (yv := Vi j_s13_l27) (.pointer (some ad46)) rfl rfl rfl rfl hr46 ?_
         refine x_load (xv := .pointer (some ad46)) (Vl a47 x46 c47) rfl rfl rfl (reads_cell0 tcell22 hc46 (fun _ h => by cases h)) ?_
         refine x_u 1 [(99, Vi x_s16_l30)] ?_
         obtain ⟨x50, hx50, h⟩ := bind_some h
         obtain ⟨ad50, cs50, hr50, hc50, hR⟩ := reads_index (Mo := []) tsl22 hs47 hx50
         obtain rfl := hR
         refine x_indexAddr (xv := Vl a47 x46 c47) (yv := Vi x_s16_l30) (.pointer (some ad50)) rfl rfl rfl rfl hr50 ?_
         refine x_load (xv := .pointer (some ad50)) (Vi x50) rfl rfl rfl (reads_cell0 tcell3 hc50 (fun _ h => by cases h)) ?_
         refine x_buildSlice (vs := [(0, Vi x50)]) #[Vi x50] 3 rfl rfl rfl (by kernel_rfl) (fun b52 w52 hq52 hb52 he52 hz52 => ?_)
         refine inl1 ?_
         have hms0 := hms
         have hst := Stp.ext (ls := [[b0_3], [b15], blk a32_l30, M]) he52
         replace hf3_1 := he52.box hf3_1 nn
         replace hf3_2 := hf3_2.step hst
         replace hf7_1 := hf7_1.step hst
         replace hf7_2 := hf7_2.step hst
         replace hj10_l11 := hj10_l11.step hst
         replace hb15 := he52.box hb15 nn
         replace hf19_1 := hf19_1.step hst
         replace hj32_l30 := hj32_l30.step hst he52 nn2
         replace hs47 := hs47.step hst
         replace hc46 := hc46.step hst
         replace hc50 := hc50.step hst
         replace hms := hms.ev he52
         replace hev := hev.ext he52
         have hs52 : SlR (eInt .i64) w52 (fl [[b0_3], [b15], blk a32_l30, M]) (Ad b52 0) 1 ([x50]) := ro_of_box hms0 hq52 hb52 rfl rfl (cells_at (cs := [Vi x50]) (CellsOf.cons (c := [Vi x50]) rfl CellsOf.nil))
         clear hb52 hms0
         have hg := guard_l h
         replace h := guard_r h
         obtain ⟨a54, c54, w54, hr54, he54, hn54, hm54, hw54⟩ := own_appendN tel22 22 hj32_l30 (mem_flat 2 rfl) hs52 hg
         refine x_builtin (vs := [Vl a32_l30 d32_l30 c32_l30, .slice (Ad b52 0) ([x50]).length 1]) _ w54 rfl rfl rfl rfl (run_value _ _ _ _ hr54) ?_
         refine inl1 ?_
         have hst : Stp (fl [[b0_3], [b15], blk a32_l30, M]) w52 (fl [[b0_3], [b15], blk a54, M]) w54 := Stp.upd 2 he54 rfl (fun b hb => (hn54 b hb).1)
         replace hf3_1 := he54.box hf3_1 (hms.apart 0 2 rfl rfl rfl _ mem1)
         replace hf3_2 := hf3_2.step hst
         replace hf7_1 := hf7_1.step hst
         replace hf7_2 := hf7_2.step hst
         replace hj10_l11 := hj10_l11.step hst
         replace hb15 := he54.box hb15 (hms.apart 1 2 rfl rfl rfl _ mem1)
         replace hf19_1 := hf19_1.step hst
         replace hs47 := hs47.step hst
         replace hc46 := hc46.step hst
         replace hc50 := hc50.step hst
         replace hs52 := hs52.step hst
         replace hms : MS w54 [[b0_3], [b15], blk a54, M] := hms.upd 2 he54 rfl hn54
         have hfr2 : FR w.heap.size [[b0_3], [b15], blk a54] := hfr.upd 2 rfl hev.size (fun b hb => (hn54 b hb).1)
         replace hev := hev.then he54 (fun b hb => .inr (hfr.at 2 rfl b hb))
         replace hfr := hfr2
         clear hfr2
         replace hj32_l30 := hw54 (fl [[b0_3], [b15], blk a54, M]) hst.new
         clear hw54
         refine x_u 1 [(14, .slice a54 ((d32_l30 ++ [x50])).length c54)] ?_
         refine x_end rfl ?_
         refine k_block ?_
         refine k_then ?_
         refine c_norm [(3, Vp b0_3 0), (4, Vl a0_7 x6.1 c0_7), (5, Vl a2_7 x6.2.1 c2_7), (6, Vl a10_l11 d10_l11 c10_l11), (7, Vi i_s7_l11), (8, Vp b15 0), (9, Vl a0_19 x18.1 c0_19), (12, Vi x22.2), (13, Vi j_s13_l27), (14, .slice a54 ((d32_l30 ++ [x50])).length c54), (15, .slice none 0 0), (16, Vi x_s16_l30)] ⟨rfl, rfl, rfl, rfl, rfl, rfl, rfl, rfl, rfl, rfl, rfl, rfl, trivial⟩ (fun J => ?_)
         refine c_plain ?_
         refine x_u 3 [(82, Vi x_s16_l30), (83, Vi (IntKind.i64.wrap (x_s16_l30 + 1))), (16, Vi (IntKind.i64.wrap (x_s16_l30 + 1)))] ?_
         refine x_end rfl ?_
         have hx := some_inj h
         subst hx
         exact k_then ⟨(m30, (d32_l30 ++ [x50]), IntKind.i64.wrap (x_s16_l30 + 1), a54, c54), ⟨rfl, rfl, rfl, rfl, rfl, rfl, rfl, rfl, rfl, rfl, rfl, rfl, trivial⟩, ⟨hn30, hev, hms, hfr, hf3_2, hf3_1, hf7_1, hf7_2, hj10_l11, hb15, hf19_1, hj32_l30⟩, Nat.lt_succ_self _⟩
       refine c_skip ?_
       refine k_block ?_
       refine k_then ?_
       refine c_plain ?_
       refine x_u 3 [(82, Vi x_s16_l30), (83, Vi (IntKind.i64.wrap (x_s16_l30 + 1))), (16, Vi (IntKind.i64.wrap (x_s16_l30 + 1)))] ?_
       refine x_end rfl ?_
       have hx := some_inj h
       subst hx
       exact k_then ⟨(m30, d32_l30, IntKind.i64.wrap (x_s16_l30 + 1), a32_l30, c32_l30), ⟨rfl, rfl, rfl, rfl, rfl, rfl, rfl, rfl, rfl, rfl, rfl, rfl, trivial⟩, ⟨hn30, hev, hms, hfr, hf3_2, hf3_1, hf7_1, hf7_2, hj10_l11, hb15, hf19_1, hj32_l30⟩, Nat.lt_succ_self _⟩
     refine c_exit ?_
     refine k_then_exit ?_
     have hx := some_inj h
     subst hx
     have hy := some_inj hn30
     subst hy
     replace h := h30
     refine k_then_exit ?_
     refine k_block_in ?_
     refine k_then ?_
     refine c_norm [(3, Vp b0_3 0), (4, Vl a0_7 x6.1 c0_7), (5, Vl a2_7 x6.2.1 c2_7), (6, Vl a10_l11 d10_l11 c10_l11), (7, Vi i_s7_l11), (8, Vp b15 0), (9, Vl a0_19 x18.1 c0_19), (12, Vi x22.2), (13, Vi j_s13_l27), (14, Vl a32_l30 d32_l30 c32_l30), (15, .slice none 0 0)] ⟨rfl, rfl, rfl, rfl, rfl, rfl, rfl, rfl, rfl, rfl, rfl, trivial⟩ (fun J => ?_)
     refine c_seq ?_
     refine c_sp ?_
     refine x_u 1 [(17, Vi 0)] ?_
     refine x_ek ?_
     refine c_block ?_
     have hst := Stp.push (ls := [[b0_3], [b15], blk a32_l30, M]) (l := blk none) (Ev.refl [] wl30) (fun _ h => by cases h) (fun _ h => by cases h)
     replace hf3_1 := (Ev.refl [] _).box hf3_1 nn
     replace hf3_2 := hf3_2.step hst
     replace hf7_1 := hf7_1.step hst
     replace hf7_2 := hf7_2.step hst
     replace hj10_l11 := hj10_l11.step hst
     replace hb15 := (Ev.refl [] _).box hb15 nn
     replace hf19_1 := hf19_1.step hst
     replace hj32_l30 := hj32_l30.step hst (Ev.refl [] _) nn2
     replace hms := hms.push (l := blk none) (Ev.refl [] _) (fun _ h => by cases h)
     replace hfr := hfr.push (l := blk none) (fun _ h => by cases h)
     have ho57 := OwnS.nil (eInt .i64) 3 wl30 (fl [blk none, [b0_3], [b15], blk a32_l30, M])
     have hpk : MS wl30 [[b0_3], [b15], blk a32_l30, blk none, M] := hms.pick [some 1, some 2, some 3, some 0, some 4] _ rfl
     have hsu : ∀ x ∈ fl [[b0_3], [b15], blk a32_l30, blk none, M], x ∈ fl [blk none, [b0_3], [b15], blk a32_l30, M] := pick_sub [some 1, some 2, some 3, some 0, some 4] _ rfl
     replace hf3_2 := hf3_2.sub hsu
     replace hf7_1 := hf7_1.sub hsu
     replace hf7_2 := hf7_2.sub hsu
     replace hj10_l11 := hj10_l11.sub hsu
     replace hf19_1 := hf19_1.sub hsu
     replace hj32_l30 := hj32_l30.sub hsu
     replace ho57 := ho57.sub hsu
     replace hms := hpk
     replace hfr : FR w.heap.size [[b0_3], [b15], blk a32_l30, blk none] := hfr.pick [some 1, some 2, some 3, some 0] _ rfl
     clear hpk hsu
     obtain ⟨d56, hd56, h56⟩ := bind_some h
     obtain ⟨m56, hd56⟩ := loop_some hd56
     refine c_loop (loop_rule hmx (σ := Nat × (List Int) × Int × Option Addr × Nat) (fun s => match s with | (_, d58_l56, x_s17_l56, a58_l56, c58_l56) => [(3, Vp b0_3 0), (4, Vl a0_7 x6.1 c0_7), (5, Vl a2_7 x6.2.1 c2_7), (6, Vl a10_l11 d10_l11 c10_l11), (7, Vi i_s7_l11), (8, Vp b15 0), (9, Vl a0_19 x18.1 c0_19), (12, Vi x22.2), (13, Vi j_s13_l27), (14, Vl a32_l30 d32_l30 c32_l30), (15, Vl a58_l56 d58_l56 c58_l56), (17, Vi x_s17_l56)]) (fun s w' => match s with | (m, d58_l56, x_s17_l56, a58_l56, c58_l56) => loopN (law42_InventoryConserves_L56 x13 x18 j_s13_l27) m (d58_l56, x_s17_l56) = some d56 ∧ Ev [] w w' ∧ MS w' [[b0_3], [b15], blk a32_l30, blk a58_l56, M] ∧ FR w.heap.size [[b0_3], [b15], blk a32_l30, blk a58_l56] ∧ SlR (eInt .i64) w' (fl [[b0_3], [b15], blk a32_l30, blk a58_l56, M]) a1_3 c1_3 x2.1 ∧ w'.heap[b0_3]? = some (.cells #[Vl a1_3 x2.1 c1_3, Vi x13.2] 52 (0, 0)) ∧ SlR (eProd eStr (eInt .i64)) w' (fl [[b0_3], [b15], blk a32_l30, blk a58_l56, M]) a0_7 c0_7 x6.1 ∧ SlR (eInt .i64) w' (fl [[b0_3], [b15], blk a32_l30, blk a58_l56, M]) a2_7 c2_7 x6.2.1 ∧ SlR (eSl (eInt .i64)) w' (fl [[b0_3], [b15], blk a32_l30, blk a58_l56, M]) a10_l11 c10_l11 d10_l11 ∧ w'.heap[b15]? = some (.cells #[Vi x13.1.1, Vi x13.1.2.1, Vi x13.1.2.2.1, .bool x13.1.2.2.2] 30 (0, 0)) ∧ SlR (eSl (eInt .i64)) w' (fl [[b0_3], [b15], blk a32_l30, blk a58_l56, M]) a0_19 c0_19 x18.1 ∧ OwnS (eInt .i64) 3 w' (fl [[b0_3], [b15], blk a32_l30, blk a58_l56, M]) a32_l30 c32_l30 d32_l30 ∧ OwnS (eInt .i64) 3 w' (fl [[b0_3], [b15], blk a32_l30, blk a58_l56, M]) a58_l56 c58_l56 d58_l56) (fun s => s.1) (m56, ([] : List Int), 0, none, 0) ⟨rfl, rfl, rfl, rfl, rfl, rfl, rfl, rfl, rfl, rfl, rfl, rfl, trivial⟩ ⟨hd56, hev, hms, hfr, hf3_2, hf3_1, hf7_1, hf7_2, hj10_l11, hb15, hf19_1, hj32_l30, ho57⟩ ?_)
     rintro ⟨m56, d58_l56, x_s17_l56, a58_l56, c58_l56⟩ J wl56 ⟨hn56, hev, hms, hfr, hf3_2, hf3_1, hf7_1, hf7_2, hj10_l11, hb15, hf19_1, hj32_l30, hj58_l56⟩
     rcases m56 with _ | m56
     · exact (loopN_zero hn56).elim
     obtain ⟨t56, h, hn56⟩ := bind_some hn56
     refine c_seq ?_
     refine c_sp ?_
     refine x_u 3 [(104, Vi x_s17_l56), (105, Vl a0_19 x18.1 c0_19), (106, Vi j_s13_l27)] ?_
     obtain ⟨x62, hx62, h⟩ := bind_some h
     obtain ⟨ad62, cs62, hr62, hc62, hR⟩ := reads_index (Mo := []) tsl26 hf19_1 hx62
     obtain ⟨a63, c63, rfl, hs63⟩ := hR
     refine x_indexAddr (xv := Vl a0_19 x18.1 c0_19) (yv := Vi j_s13_l27) (.pointer (some ad62)) rfl rfl rfl rfl hr62 ?_
     refine x_load (xv := .pointer (some ad62)) (Vl a63 x62 c63) rfl rfl rfl (reads_cell0 tcell22 hc62 (fun _ h => by cases h)) ?_
     refine x_len (vs := [Vl a63 x62 c63]) (Vi ((x62).length : Int)) rfl rfl rfl (reads_len tsl22 _ _ _ _ _) ?_
     refine x_u 1 [(110, .bool (decide (x_s17_l56 < ((x62).length : Int))))] ?_
     refine x_ek ?_
     refine c_norm [(3, Vp b0_3 0), (4, Vl a0_7 x6.1 c0_7), (5, Vl a2_7 x6.2.1 c2_7), (6, Vl a10_l11 d10_l11 c10_l11), (7, Vi i_s7_l11), (8, Vp b15 0), (9, Vl a0_19 x18.1 c0_19), (12, Vi x22.2), (13, Vi j_s13_l27), (14, Vl a32_l30 d32_l30 c32_l30), (15, Vl a58_l56 d58_l56 c58_l56), (17, Vi x_s17_l56), (110, .bool (decide (x_s17_l56 < ((x62).length : Int))))] ⟨rfl, rfl, rfl, rfl, rfl, rfl, rfl, rfl, rfl, rfl, rfl, rfl, rfl, trivial⟩ (fun J => ?_)
     refine c_if (decide (x_s17_l56 < ((x62).length : Int))) rfl h (fun h => ?_) (fun h => ?_)
     · refine c_skip ?_
       refine k_then ?_
       refine c_seq ?_
       refine c_block ?_
       refine c_seq ?_
       refine c_drawn [] [(0, false), (1, false), (2, false), (3, false), (4, false), (5, false), (6, false), (7, false), (8, false), (9, false)] _ (by kernel_rfl) rfl ?_
       have hst := Stp.ext (ls := [[b0_3], [b15], blk a32_l30, blk a58_l56, M]) (Ev.drew wl56)
       replace hf3_1 := (Ev.drew wl56).box hf3_1 nn
       replace hf3_2 := hf3_2.step hst
       replace hf7_1 := hf7_1.step hst
       replace hf7_2 := hf7_2.step hst
       replace hj10_l11 := hj10_l11.step hst
       replace hb15 := (Ev.drew wl56).box hb15 nn
       replace hf19_1 := hf19_1.step hst
       replace hj32_l30 := hj32_l30.step hst (Ev.drew wl56) nn2
       replace hj58_l56 := hj58_l56.step hst (Ev.drew wl56) nn2
       replace hms := hms.ev (Ev.drew wl56)
       replace hev := hev.ext (Ev.drew wl56)
       refine x_u 2 [(113, Vl a0_19 x18.1 c0_19), (114, Vi j_s13_l27)] ?_
       obtain ⟨x66, hx66, h⟩ := bind_some h
       obtain ⟨ad66, cs66, hr66, hc66, hR⟩ := reads_index (Mo := []) tsl26 hf19_1 hx66
       obtain ⟨a67, c67, rfl, hs67⟩ := hR
       refine x_indexAddr (xv := Vl a0_19 x18.1 c0_19) (yv := Vi j_s13_l27) (.pointer (some ad66)) rfl rfl rfl rfl hr66 ?_
       refine x_load (xv := .pointer (some ad66)) (Vl a67 x66 c67) rfl rfl rfl (reads_cell0 tcell22 hc66 (fun _ h => by cases h)) ?_
       refine x_u 1 [(117, Vi x_s17_l56)] ?_
       obtain ⟨x70, hx70, h⟩ := bind_some h
       obtain ⟨ad70, cs70, hr70, hc70, hR⟩ := reads_index (Mo := []) tsl22 hs67 hx70
       obtain rfl := hR
       refine x_indexAddr (xv := Vl a67 x66 c67) (yv := Vi x_s17_l56) (.pointer (some ad70)) rfl rfl rfl rfl hr70 ?_
       refine x_load (xv := .pointer (some ad70)) (Vi x70) rfl rfl rfl (reads_cell0 tcell3 hc70 (fun _ h => by cases h)) ?_
       refine x_fieldAddr (xv := Vp b15 0) (Vp b15 0) rfl rfl rfl (reads_field tfld30_0 _ _) ?_
       refine x_load (xv := Vp b15 0) (Vi x13.1.1) rfl rfl rfl (reads_box tcell3 hb15 nn 0 _ rfl) ?_
       refine x_u 1 [(122, .bool (x70 != x13.1.1))] ?_
       refine x_ek ?_
       refine c_if (x70 != x13.1.1) rfl h (fun h => ?_) (fun h => ?_)
       · refine c_plain ?_
         refine x_u 3 [(123, Vl a58_l56 d58_l56 c58_l56), (124, Vl a0_19 x18.1 c0_19), (125, Vi j_s13_l27)] ?_
         obtain ⟨x72, hx72, h⟩ := bind_some h
         obtain ⟨ad72, cs72, hr72, hc72, hR⟩ := reads_index (Mo := []) tsl26 hf19_1 hx72
         obtain ⟨a73, c73, rfl, hs73⟩ := hR
         refine x_indexAddr (xv := Vl a0_19 x18.1 c0_19) (yv := Vi j_s13_l27) (.pointer (some ad72)) rfl rfl rfl rfl hr72 ?_
         refine x_load (xv := .pointer (some ad72)) (Vl a73 x72 c73) rfl rfl rfl (reads_cell0 tcell22 hc72 (fun _ h => by cases h)) ?_
         refine x_u 1 [(128, Vi x_s17_l56)] ?_
         obtain ⟨x76, hx76, h⟩ := bind_some h
         obtain ⟨ad76, cs76, hr76, hc76, hR⟩ := reads_index (Mo := []) tsl22 hs73 hx76
         obtain rfl := hR
         refine x_indexAddr (xv := Vl a73 x72 c73) (yv := Vi x_s17_l56) (.pointer (some ad76)) rfl rfl rfl rfl hr76 ?_
         refine x_load (xv := .pointer (some ad76)) (Vi x76) rfl rfl rfl (reads_cell0 tcell3 hc76 (fun _ h => by cases h)) ?_
         refine x_buildSlice (vs := [(0, Vi x76)]) #[Vi x76] 3 rfl rfl rfl (by kernel_rfl) (fun b78 w78 hq78 hb78 he78 hz78 => ?_)
         refine inl1 ?_
         have hms0 := hms
         have hst := Stp.ext (ls := [[b0_3], [b15], blk a32_l30, blk a58_l56, M]) he78
         replace hf3_1 := he78.box hf3_1 nn
         replace hf3_2 := hf3_2.step hst
         replace hf7_1 := hf7_1.step hst
         replace hf7_2 := hf7_2.step hst
         replace hj10_l11 := hj10_l11.step hst
         replace hb15 := he78.box hb15 nn
         replace hf19_1 := hf19_1.step hst
         replace hj32_l30 := hj32_l30.step hst he78 nn2
         replace hj58_l56 := hj58_l56.step hst he78 nn2
         replace hs73 := hs73.step hst
         replace hc72 := hc72.step hst
         replace hc76 := hc76.step hst
         replace hms := hms.ev he78
         replace hev := hev.ext he78
         have hs78 : SlR (eInt .i64) w78 (fl [[b0_3], [b15], blk a32_l30, blk a58_l56, M]) (Ad b78 0) 1 ([x76]) := ro_of_box hms0 hq78 hb78 rfl rfl (cells_at (cs := [Vi x76]) (CellsOf.cons (c := [Vi x76]) rfl CellsOf.nil))
         clear hb78 hms0
         have hg := guard_l h
         replace h := guard_r h
         obtain ⟨a80, c80, w80, hr80, he80, hn80, hm80, hw80⟩ := own_appendN tel22 22 hj58_l56 (mem_flat 3 rfl) hs78 hg
         refine x_builtin (vs := [Vl a58_l56 d58_l56 c58_l56, .slice (Ad b78 0) ([x76]).length 1]) _ w80 rfl rfl rfl rfl (run_value _ _ _ _ hr80) ?_
         refine inl1 ?_
         have hst : Stp (fl [[b0_3], [b15], blk a32_l30, blk a58_l56, M]) w78 (fl [[b0_3], [b15], blk a32_l30, blk a80, M]) w80 := Stp.upd 3 he80 rfl (fun b hb => (hn80 b hb).1)
         replace hf3_1 := he80.box hf3_1 (hms.apart 0 3 rfl rfl rfl _ mem1)
         replace hf3_2 := hf3_2.step hst
         replace hf7_1 := hf7_1.step hst
         replace hf7_2 := hf7_2.step hst
         replace hj10_l11 := hj10_l11.step hst
         replace hb15 := he80.box hb15 (hms.apart 1 3 rfl rfl rfl _ mem1)
         replace hf19_1 := hf19_1.step hst
         replace hj32_l30 := hj32_l30.step hst he80 (hms.apart 2 3 rfl rfl rfl)
         replace hs73 := hs73.step hst
         replace hc72 := hc72.step hst
         replace hc76 := hc76.step hst
         replace hs78 := hs78.step hst
         replace hms : MS w80 [[b0_3], [b15], blk a32_l30, blk a80, M] := hms.upd 3 he80 rfl hn80
         have hfr2 : FR w.heap.size [[b0_3], [b15], blk a32_l30, blk a80] := hfr.upd 3 rfl hev.size (fun b hb => (hn80 b hb).1)
         replace hev := hev.then he80 (fun b hb => .inr (hfr.at 3 rfl b hb))
         replace hfr := hfr2
         clear hfr2
         replace hj58_l56 := hw80 (fl [[b0_3], [b15], blk a32_l30, blk a80, M]) hst.new
         clear hw80
         refine x_u 1 [(15, .slice a80 ((d58_l56 ++ [x76])).length c80)] ?_
         refine x_end rfl ?_
         refine k_block ?_
         refine k_then ?_
         refine c_norm [(3, Vp b0_3 0), (4, Vl a0_7 x6.1 c0_7), (5, Vl a2_7 x6.2.1 c2_7), (6, Vl a10_l11 d10_l11 c10_l11), (7, Vi i_s7_l11), (8, Vp b15 0), (9, Vl a0_19 x18.1 c0_19), (12, Vi x22.2), (13, Vi j_s13_l27), (14, Vl a32_l30 d32_l30 c32_l30), (15, .slice a80 ((d58_l56 ++ [x76])).length c80), (17, Vi x_s17_l56)] ⟨rfl, rfl, rfl, rfl, rfl, rfl, rfl, rfl, rfl, rfl, rfl, rfl, trivial⟩ (fun J => ?_)
         refine c_plain ?_
         refine x_u 3 [(111, Vi x_s17_l56), (112, Vi (IntKind.i64.wrap (x_s17_l56 + 1))), (17, Vi (IntKind.i64.wrap (x_s17_l56 + 1)))] ?_
         refine x_end rfl ?_
         have hx := some_inj h
         subst hx
         exact k_then ⟨(m56, (d58_l56 ++ [x76]), IntKind.i64.wrap (x_s17_l56 + 1), a80, c80), ⟨rfl, rfl, rfl, rfl, rfl, rfl, rfl, rfl, rfl, rfl, rfl, rfl, trivial⟩, ⟨hn56, hev, hms, hfr, hf3_2, hf3_1, hf7_1, hf7_2, hj10_l11, hb15, hf19_1, hj32_l30, hj58_l56⟩, Nat.lt_succ_self _⟩
       refine c_skip ?_
       refine k_block ?_
       refine k_then ?_
       refine c_plain ?_
       refine x_u 3 [(111, Vi x_s17_l56), (112, Vi (IntKind.i64.wrap (x_s17_l56 + 1))), (17, Vi (IntKind.i64.wrap (x_s17_l56 + 1)))] ?_
       refine x_end rfl ?_
       have hx := some_inj h
       subst hx
       exact k_then ⟨(m56, d58_l56, IntKind.i64.wrap (x_s17_l56 + 1), a58_l56, c58_l56), ⟨rfl, rfl, rfl, rfl, rfl, rfl, rfl, rfl, rfl, rfl, rfl, rfl, trivial⟩, ⟨hn56, hev, hms, hfr, hf3_2, hf3_1, hf7_1, hf7_2, hj10_l11, hb15, hf19_1, hj32_l30, hj58_l56⟩, Nat.lt_succ_self _⟩
     refine c_exit ?_
     refine k_then_exit ?_
     have hx := some_inj h
     subst hx
     have hy := some_inj hn56
     subst hy
     replace h := h56
     refine k_then_exit ?_
     refine k_block_in ?_
     refine k_then ?_
     refine c_norm [(3, Vp b0_3 0), (4, Vl a0_7 x6.1 c0_7), (5, Vl a2_7 x6.2.1 c2_7), (6, Vl a10_l11 d10_l11 c10_l11), (7, Vi i_s7_l11), (8, Vp b15 0), (9, Vl a0_19 x18.1 c0_19), (12, Vi x22.2), (13, Vi j_s13_l27), (14, Vl a32_l30 d32_l30 c32_l30), (15, Vl a58_l56 d58_l56 c58_l56)] ⟨rfl, rfl, rfl, rfl, rfl, rfl, rfl, rfl, rfl, rfl, rfl, trivial⟩ (fun J => ?_)
     refine c_sp ?_
     refine x_u 2 [(133, Vl a32_l30 d32_l30 c32_l30), (134, Vl a58_l56 d58_l56 c58_l56)] ?_
     obtain ⟨x81, hx, h⟩ := bind_some h
     have hpk : MS wl56 ([] ++ [[b0_3], [b15], M]) := hms.pick [some 0, some 1, some 4] _ rfl
     have hsb0 : ∀ x ∈ fl ([] ++ [[b0_3], [b15], M]), x ∈ fl [[b0_3], [b15], blk a32_l30, blk a58_l56, M] := pick_sub [some 0, some 1, some 4] _ rfl
     have hsb : ∀ x ∈ fl ([] ++ [(fl [[b0_3], [b15], M])]), x ∈ fl [[b0_3], [b15], blk a32_l30, blk a58_l56, M] := fun x hx => hsb0 x (fl_unfold x hx)
     have hcall := gen_Ints_w a32_l30 c32_l30 d32_l30 a58_l56 c58_l56 d58_l56 _ wl56 (fl [[b0_3], [b15], M]) (MS.fold (P := []) hpk) (hj32_l30.ro hsb (fun b hb hb2 => pick_out hms 2 rfl [some 0, some 1, some 4] ([] ++ [[b0_3], [b15], M]) rfl rfl b hb (fl_unfold b hb2))) (hj58_l56.ro hsb (fun b hb hb2 => pick_out hms 3 rfl [some 0, some 1, some 4] ([] ++ [[b0_3], [b15], M]) rfl rfl b hb (fl_unfold b hb2))) hx
     refine x_call 12 #[] #[] [Vl a32_l30 d32_l30 c32_l30, Vl a58_l56 d58_l56 c58_l56] _ rfl rfl rfl rfl hcall ?_
     rintro v w82 ⟨rfl, he82⟩
     clear hcall hx
     refine inl1 ?_
     have hst := Stp.ext (ls := [[b0_3], [b15], blk a32_l30, blk a58_l56, M]) he82
     replace hf3_1 := he82.box hf3_1 nn
     replace hf3_2 := hf3_2.step hst
     replace hf7_1 := hf7_1.step hst
     replace hf7_2 := hf7_2.step hst
     replace hj10_l11 := hj10_l11.step hst
     replace hb15 := he82.box hb15 nn
     replace hf19_1 := hf19_1.step hst
     replace hj32_l30 := hj32_l30.step hst he82 nn2
     replace hj58_l56 := hj58_l56.step hst he82 nn2
     replace hms := hms.ev he82
     replace hev := hev.ext he82
     clear hpk hsb hsb0
     refine x_u 2 [(136, .bool (!x81)), (137, .bool (!x81))] ?_
     refine x_if 137 (!x81) rfl h (fun h => ?_) (fun h => ?_)
     · refine x_u 51 [(138, undef), (139, undef), (140, undef), (141, undef), (142, undef), (143, undef), (144, undef), (145, undef), (146, undef), (147, undef), (148, undef), (149, undef), (150, undef), (151, undef), (152, undef), (153, undef), (154, undef), (155, undef), (156, undef), (157, undef), (158, undef), (159, undef), (160, undef), (161, undef), (162, undef), (163, undef), (164, undef), (165, undef), (166, undef), (167, undef), (168, undef), (169, undef), (170, undef), (171, undef), (172, .bool true), (173, .bool true), (174, undef), (175, undef), (176, undef), (177, undef), (178, undef), (179, undef), (180, undef), (181, undef), (182, undef), (183, undef), (184, undef), (185, undef), (186, undef), (187, undef), (188, .bool true)] ?_
       refine x_ek ?_
       refine c_norm [(3, Vp b0_3 0), (4, Vl a0_7 x6.1 c0_7), (5, Vl a2_7 x6.2.1 c2_7), (6, Vl a10_l11 d10_l11 c10_l11), (7, Vi i_s7_l11), (8, Vp b15 0), (9, Vl a0_19 x18.1 c0_19), (12, Vi x22.2), (13, Vi j_s13_l27), (188, .bool true)] ⟨rfl, rfl, rfl, rfl, rfl, rfl, rfl, rfl, rfl, rfl, trivial⟩ (fun J => ?_)
       refine c_true rfl ?_
       refine c_sp ?_
       refine x_u 1 [(2, .bool false)] ?_
       refine x_ek ?_
       refine c_ret ?_
       refine k_block_ret ?_
       refine k_then_ret ?_
       have hx := some_inj h
       subst hx
       have hy := some_inj hn27
       subst hy
       replace h := h27
       refine k_then_ret ?_
       refine k_block_ret ?_
       refine k_then_ret ?_
       refine k_block_ret ?_
       refine k_then_ret ?_
       have hx := some_inj h
       subst hx
       have hy := some_inj hn11
       subst hy
       replace h := h11
       refine k_then_ret ?_
       refine k_block_ret ?_
       refine k_then_ret ?_
       refine r_ret (r_vals [.bool false] ⟨rfl, trivial⟩ ?_)
       have hx := some_inj h
       subst hx
       have hmr : MS w82 [M] := hms.pick [some 4] _ rfl
       have hsu : ∀ x ∈ fl [M], x ∈ fl [[b0_3], [b15], blk a32_l30, blk a58_l56, M] := pick_sub [some 4] _ rfl
       exact ⟨rfl, hev⟩
     refine x_u 1 [(138, Vi j_s13_l27)] ?_
     refine x_fieldAddr (xv := Vp b15 0) (Vp b15 2) rfl rfl rfl (reads_field tfld30_2 _ _) ?_
     refine x_load (xv := Vp b15 2) (Vi x13.1.2.2.1) rfl rfl rfl (reads_box tcell3 hb15 nn 2 _ rfl) ?_
     refine x_u 2 [(141, .bool (j_s13_l27 == x13.1.2.2.1)), (142, .bool (j_s13_l27 == x13.1.2.2.1))] ?_
     refine x_if 142 (j_s13_l27 == x13.1.2.2.1) rfl h (fun h => ?_) (fun h => ?_)
     · refine x_u 2 [(143, Vl a0_19 x18.1 c0_19), (144, Vi j_s13_l27)] ?_
       obtain ⟨x83, hx83, h⟩ := bind_some h
       obtain ⟨ad83, cs83, hr83, hc83, hR⟩ := reads_index (Mo := []) tsl26 hf19_1 hx83
       obtain ⟨a84, c84, rfl, hs84⟩ := hR
       refine x_indexAddr (xv := Vl a0_19 x18.1 c0_19) (yv := Vi j_s13_l27) (.pointer (some ad83)) rfl rfl rfl rfl hr83 ?_
       refine x_load (xv := .pointer (some ad83)) (Vl a84 x83 c84) rfl rfl rfl (reads_cell0 tcell22 hc83 (fun _ h => by cases h)) ?_
       refine x_len (vs := [Vl a84 x83 c84]) (Vi ((x83).length : Int)) rfl rfl rfl (reads_len tsl22 _ _ _ _ _) ?_
       refine x_u 1 [(148, Vl a32_l30 d32_l30 c32_l30)] ?_
       refine x_len (vs := [Vl a32_l30 d32_l30 c32_l30]) (Vi ((d32_l30).length : Int)) rfl rfl rfl (reads_len tsl22 _ _ _ _ _) ?_
       refine x_u 3 [(150, Vi (IntKind.i64.wrap (((d32_l30).length : Int) + 1))), (151, .bool (((x83).length : Int) != (IntKind.i64.wrap (((d32_l30).length : Int) + 1)))), (152, .bool (((x83).length : Int) != (IntKind.i64.wrap (((d32_l30).length : Int) + 1))))] ?_
       refine x_if 152 (((x83).length : Int) != (IntKind.i64.wrap (((d32_l30).length : Int) + 1))) rfl h (fun h => ?_) (fun h => ?_)
       · refine x_u 36 [(153, undef), (154, undef), (155, undef), (156, undef), (157, undef), (158, undef), (159, .bool true), (160, .bool true), (161, undef), (162, undef), (163, undef), (164, undef), (165, undef), (166, undef), (167, undef), (168, undef), (169, undef), (170, .bool true), (171, .bool true), (172, .bool true), (173, .bool true), (174, undef), (175, undef), (176, undef), (177, undef), (178, undef), (179, undef), (180, undef), (181, undef), (182, undef), (183, undef), (184, undef), (185, undef), (186, undef), (187, undef), (188, .bool true)] ?_
         refine x_ek ?_
         refine c_norm [(3, Vp b0_3 0), (4, Vl a0_7 x6.1 c0_7), (5, Vl a2_7 x6.2.1 c2_7), (6, Vl a10_l11 d10_l11 c10_l11), (7, Vi i_s7_l11), (8, Vp b15 0), (9, Vl a0_19 x18.1 c0_19), (12, Vi x22.2), (13, Vi j_s13_l27), (188, .bool true)] ⟨rfl, rfl, rfl, rfl, rfl, rfl, rfl, rfl, rfl, rfl, trivial⟩ (fun J => ?_)
         refine c_true rfl ?_
         refine c_sp ?_
         refine x_u 1 [(2, .bool false)] ?_
         refine x_ek ?_
         refine c_ret ?_
         refine k_block_ret ?_
         refine k_then_ret ?_
         have hx := some_inj h
         subst hx
         have hy := some_inj hn27
         subst hy
         replace h := h27
         refine k_then_ret ?_
         refine k_block_ret ?_
         refine k_then_ret ?_
         refine k_block_ret ?_
         refine k_then_ret ?_
         have hx := some_inj h
         subst hx
         have hy := some_inj hn11
         subst hy
         replace h := h11
         refine k_then_ret ?_
         refine k_block_ret ?_
         refine k_then_ret ?_
         refine r_ret (r_vals [.bool false] ⟨rfl, trivial⟩ ?_)
         have hx := some_inj h
         subst hx
         have hmr : MS w82 [M] := hms.pick [some 4] _ rfl
         have hsu : ∀ x ∈ fl [M], x ∈ fl [[b0_3], [b15], blk a32_l30, blk a58_l56, M] := pick_sub [some 4] _ rfl
         exact ⟨rfl, hev⟩
       refine x_u 3 [(153, Vi x22.2), (154, .bool (x22.2 != 0)), (155, .bool (x22.2 != 0))] ?_
       refine x_if 155 (x22.2 != 0) rfl h (fun h => ?_) (fun h => ?_)
       · refine x_fieldAddr (xv := Vp b15 0) (Vp b15 3) rfl rfl rfl (reads_field tfld30_3 _ _) ?_
         refine x_load (xv := Vp b15 3) (.bool x13.1.2.2.2) rfl rfl rfl (reads_box tcell4 hb15 nn 3 _ rfl) ?_
         refine x_u 3 [(158, .bool x13.1.2.2.2), (159, .bool x13.1.2.2.2), (160, .bool x13.1.2.2.2)] ?_
         refine x_if 160 x13.1.2.2.2 rfl h (fun h => ?_) (fun h => ?_)
         · refine x_u 28 [(161, undef), (162, undef), (163, undef), (164, undef), (165, undef), (166, undef), (167, undef), (168, undef), (169, undef), (170, .bool true), (171, .bool true), (172, .bool true), (173, .bool true), (174, undef), (175, undef), (176, undef), (177, undef), (178, undef), (179, undef), (180, undef), (181, undef), (182, undef), (183, undef), (184, undef), (185, undef), (186, undef), (187, undef), (188, .bool true)] ?_
           refine x_ek ?_
           refine c_norm [(3, Vp b0_3 0), (4, Vl a0_7 x6.1 c0_7), (5, Vl a2_7 x6.2.1 c2_7), (6, Vl a10_l11 d10_l11 c10_l11), (7, Vi i_s7_l11), (8, Vp b15 0), (9, Vl a0_19 x18.1 c0_19), (12, Vi x22.2), (13, Vi j_s13_l27), (188, .bool true)] ⟨rfl, rfl, rfl, rfl, rfl, rfl, rfl, rfl, rfl, rfl, trivial⟩ (fun J => ?_)
           refine c_true rfl ?_
           refine c_sp ?_
           refine x_u 1 [(2, .bool false)] ?_
           refine x_ek ?_
           refine c_ret ?_
           refine k_block_ret ?_
           refine k_then_ret ?_
           have hx := some_inj h
           subst hx
           have hy := some_inj hn27
           subst hy
           replace h := h27
           refine k_then_ret ?_
           refine k_block_ret ?_
           refine k_then_ret ?_
           refine k_block_ret ?_
           refine k_then_ret ?_
           have hx := some_inj h
           subst hx
           have hy := some_inj hn11
           subst hy
           replace h := h11
           refine k_then_ret ?_
           refine k_block_ret ?_
           refine k_then_ret ?_
           refine r_ret (r_vals [.bool false] ⟨rfl, trivial⟩ ?_)
           have hx := some_inj h
           subst hx
           have hmr : MS w82 [M] := hms.pick [some 4] _ rfl
           have hsu : ∀ x ∈ fl [M], x ∈ fl [[b0_3], [b15], blk a32_l30, blk a58_l56, M] := pick_sub [some 4] _ rfl
           exact ⟨rfl, hev⟩
         refine x_fieldAddr (xv := Vp b15 0) (Vp b15 3) rfl rfl rfl (reads_field tfld30_3 _ _) ?_
         refine x_load (xv := Vp b15 3) (.bool x13.1.2.2.2) rfl rfl rfl (reads_box tcell4 hb15 nn 3 _ rfl) ?_
         refine x_u 2 [(163, .bool (!x13.1.2.2.2)), (164, .bool (!x13.1.2.2.2))] ?_
         refine x_if 164 (!x13.1.2.2.2) rfl h (fun h => ?_) (fun h => ?_)
         · refine x_u 2 [(165, Vi x22.2), (166, Vl a32_l30 d32_l30 c32_l30)] ?_
           refine x_len (vs := [Vl a32_l30 d32_l30 c32_l30]) (Vi ((d32_l30).length : Int)) rfl rfl rfl (reads_len tsl22 _ _ _ _ _) ?_
           refine x_u 6 [(168, .bool (x22.2 != ((d32_l30).length : Int))), (169, .bool (x22.2 != ((d32_l30).length : Int))), (170, .bool (x22.2 != ((d32_l30).length : Int))), (171, .bool (x22.2 != ((d32_l30).length : Int))), (172, .bool (x22.2 != ((d32_l30).length : Int))), (173, .bool (x22.2 != ((d32_l30).length : Int)))] ?_
           refine x_if 173 (x22.2 != ((d32_l30).length : Int)) rfl h (fun h => ?_) (fun h => ?_)
           · refine x_u 15 [(174, undef), (175, undef), (176, undef), (177, undef), (178, undef), (179, undef), (180, undef), (181, undef), (182, undef), (183, undef), (184, undef), (185, undef), (186, undef), (187, undef), (188, .bool true)] ?_
             refine x_ek ?_
             refine c_norm [(3, Vp b0_3 0), (4, Vl a0_7 x6.1 c0_7), (5, Vl a2_7 x6.2.1 c2_7), (6, Vl a10_l11 d10_l11 c10_l11), (7, Vi i_s7_l11), (8, Vp b15 0), (9, Vl a0_19 x18.1 c0_19), (12, Vi x22.2), (13, Vi j_s13_l27), (188, .bool true)] ⟨rfl, rfl, rfl, rfl, rfl, rfl, rfl, rfl, rfl, rfl, trivial⟩ (fun J => ?_)
             refine c_true rfl ?_
             refine c_sp ?_
             refine x_u 1 [(2, .bool false)] ?_
             refine x_ek ?_
             refine c_ret ?_
             refine k_block_ret ?_
             refine k_then_ret ?_
             have hx := some_inj h
             subst hx
             have hy := some_inj hn27
             subst hy
             replace h := h27
             refine k_then_ret ?_
             refine k_block_ret ?_
             refine k_then_ret ?_
             refine k_block_ret ?_
             refine k_then_ret ?_
             have hx := some_inj h
             subst hx
             have hy := some_inj hn11
             subst hy
             replace h := h11
             refine k_then_ret ?_
             refine k_block_ret ?_
             refine k_then_ret ?_
             refine r_ret (r_vals [.bool false] ⟨rfl, trivial⟩ ?_)
             have hx := some_inj h
             subst hx
             have hmr : MS w82 [M] := hms.pick [some 4] _ rfl
             have hsu : ∀ x ∈ fl [M], x ∈ fl [[b0_3], [b15], blk a32_l30, blk a58_l56, M] := pick_sub [some 4] _ rfl
             exact ⟨rfl, hev⟩
           refine x_u 1 [(174, Vi j_s13_l27)] ?_
           refine x_fieldAddr (xv := Vp b15 0) (Vp b15 2) rfl rfl rfl (reads_field tfld30_2 _ _) ?_
           refine x_load (xv := Vp b15 2) (Vi x13.1.2.2.1) rfl rfl rfl (reads_box tcell3 hb15 nn 2 _ rfl) ?_
           refine x_u 2 [(177, .bool (j_s13_l27 != x13.1.2.2.1)), (178, .bool (j_s13_l27 != x13.1.2.2.1))] ?_
           refine x_if 178 (j_s13_l27 != x13.1.2.2.1) rfl h (fun h => ?_) (fun h => ?_)
           · refine x_u 2 [(179, Vl a0_19 x18.1 c0_19), (180, Vi j_s13_l27)] ?_
             obtain ⟨x87, hx87, h⟩ := bind_some h
             obtain ⟨ad87, cs87, hr87, hc87, hR⟩ := reads_index (Mo := []) tsl26 hf19_1 hx87
             obtain ⟨a88, c88, rfl, hs88⟩ := hR
             refine x_indexAddr (xv := Vl a0_19 x18.1 c0_19) (yv := Vi j_s13_l27) (.pointer (some ad87)) rfl rfl rfl rfl hr87 ?_
             refine x_load (xv := .pointer (some ad87)) (Vl a88 x87 c88) rfl rfl rfl (reads_cell0 tcell22 hc87 (fun _ h => by cases h)) ?_
             refine x_len (vs := [Vl a88 x87 c88]) (Vi ((x87).length : Int)) rfl rfl rfl (reads_len tsl22 _ _ _ _ _) ?_
             refine x_u 1 [(184, Vl a32_l30 d32_l30 c32_l30)] ?_
             refine x_len (vs := [Vl a32_l30 d32_l30 c32_l30]) (Vi ((d32_l30).length : Int)) rfl rfl rfl (reads_len tsl22 _ _ _ _ _) ?_
             refine x_u 3 [(186, .bool (((x87).length : Int) != ((d32_l30).length : Int))), (187, .bool (((x87).length : Int) != ((d32_l30).length : Int))), (188, .bool (((x87).length : Int) != ((d32_l30).length : Int)))] ?_
             refine x_ek ?_
             refine c_norm [(3, Vp b0_3 0), (4, Vl a0_7 x6.1 c0_7), (5, Vl a2_7 x6.2.1 c2_7), (6, Vl a10_l11 d10_l11 c10_l11), (7, Vi i_s7_l11), (8, Vp b15 0), (9, Vl a0_19 x18.1 c0_19), (12, Vi x22.2), (13, Vi j_s13_l27), (188, .bool (((x87).length : Int) != ((d32_l30).length : Int)))] ⟨rfl, rfl, rfl, rfl, rfl, rfl, rfl, rfl, rfl, rfl, trivial⟩ (fun J => ?_)
             refine c_if (((x87).length : Int) != ((d32_l30).length : Int)) rfl h (fun h => ?_) (fun h => ?_)
             · refine c_sp ?_
               refine x_u 1 [(2, .bool false)] ?_
               refine x_ek ?_
               refine c_ret ?_
               refine k_block_ret ?_
               refine k_then_ret ?_
               have hx := some_inj h
               subst hx
               have hy := some_inj hn27
               subst hy
               replace h := h27
               refine k_then_ret ?_
               refine k_block_ret ?_
               refine k_then_ret ?_
               refine k_block_ret ?_
               refine k_then_ret ?_
               have hx := some_inj h
               subst hx
               have hy := some_inj hn11
               subst hy
               replace h := h11
               refine k_then_ret ?_
               refine k_block_ret ?_
               refine k_then_ret ?_
               refine r_ret (r_vals [.bool false] ⟨rfl, trivial⟩ ?_)
               have hx := some_inj h
               subst hx
               have hmr : MS w82 [M] := hms.pick [some 4] _ rfl
               have hsu : ∀ x ∈ fl [M], x ∈ fl [[b0_3], [b15], blk a32_l30, blk a58_l56, M] := pick_sub [some 4] _ rfl
               exact ⟨rfl, hev⟩
             refine c_skip ?_
             refine k_block ?_
             refine k_then ?_
             refine c_plain ?_
             refine x_u 3 [(73, Vi j_s13_l27), (74, Vi (IntKind.i64.wrap (j_s13_l27 + 1))), (13, Vi (IntKind.i64.wrap (j_s13_l27 + 1)))] ?_
             refine x_end rfl ?_
             have hx := some_inj h
             subst hx
             have hpk : MS w82 [[b0_3], [b15], M] := hms.pick [some 0, some 1, some 4] _ rfl
             have hsu : ∀ x ∈ fl [[b0_3], [b15], M], x ∈ fl [[b0_3], [b15], blk a32_l30, blk a58_l56, M] := pick_sub [some 0, some 1, some 4] _ rfl
             replace hf3_2 := hf3_2.sub hsu
             replace hf7_1 := hf7_1.sub hsu
             replace hf7_2 := hf7_2.sub hsu
             replace hj10_l11 := hj10_l11.sub hsu
             replace hf19_1 := hf19_1.sub hsu
             replace hms := hpk
             replace hfr : FR w.heap.size [[b0_3], [b15]] := hfr.pick [some 0, some 1] _ rfl
             clear hpk hsu
             exact k_then ⟨(m27, IntKind.i64.wrap (j_s13_l27 + 1)), ⟨rfl, rfl, rfl, rfl, rfl, rfl, rfl, rfl, rfl, trivial⟩, ⟨hn27, hev, hms, hfr, hf3_2, hf3_1, hf7_1, hf7_2, hj10_l11, hb15, hf19_1⟩, Nat.lt_succ_self _⟩
           refine x_u 10 [(179, undef), (180, undef), (181, undef), (182, undef), (183, undef), (184, undef), (185, undef), (186, undef), (187, .bool false), (188, .bool false)] ?_
           refine x_ek ?_
           refine c_norm [(3, Vp b0_3 0), (4, Vl a0_7 x6.1 c0_7), (5, Vl a2_7 x6.2.1 c2_7), (6, Vl a10_l11 d10_l11 c10_l11), (7, Vi i_s7_l11), (8, Vp b15 0), (9, Vl a0_19 x18.1 c0_19), (12, Vi x22.2), (13, Vi j_s13_l27), (188, .bool false)] ⟨rfl, rfl, rfl, rfl, rfl, rfl, rfl, rfl, rfl, rfl, trivial⟩ (fun J => ?_)
           refine c_false rfl ?_
           refine c_skip ?_
           refine k_block ?_
           refine k_then ?_
           refine c_plain ?_
           refine x_u 3 [(73, Vi j_s13_l27), (74, Vi (IntKind.i64.wrap (j_s13_l27 + 1))), (13, Vi (IntKind.i64.wrap (j_s13_l27 + 1)))] ?_
           refine x_end rfl ?_
           have hx := some_inj h
           subst hx
           have hpk : MS w82 [[b0_3], [b15], M] := hms.pick [some 0, some 1, some 4] _ rfl
           have hsu : ∀ x ∈ fl [[b0_3], [b15], M], x ∈ fl [[b0_3], [b15], blk a32_l30, blk a58_l56, M] := pick_sub [some 0, some 1, some 4] _ rfl
           replace hf3_2 := hf3_2.sub hsu
           replace hf7_1 := hf7_1.sub hsu
           replace hf7_2 := hf7_2.sub hsu
           replace hj10_l11 := hj10_l11.sub hsu
           replace hf19_1 := hf19_1.sub hsu
           replace hms := hpk
           replace hfr : FR w.heap.size [[b0_3], [b15]] := hfr.pick [some 0, some 1] _ rfl
           clear hpk hsu
           exact k_then ⟨(m27, IntKind.i64.wrap (j_s13_l27 + 1)), ⟨rfl, rfl, rfl, rfl, rfl, rfl, rfl, rfl, rfl, trivial⟩, ⟨hn27, hev, hms, hfr, hf3_2, hf3_1, hf7_1, hf7_2, hj10_l11, hb15, hf19_1⟩, Nat.lt_succ_self _⟩
         refine x_u 10 [(165, undef), (166, undef), (167, undef), (168, undef), (169, .bool false), (170, .bool false), (171, .bool false), (172, .bool false), (173, .bool false), (174, Vi j_s13_l27)] ?_
         refine x_fieldAddr (xv := Vp b15 0) (Vp b15 2) rfl rfl rfl (reads_field tfld30_2 _ _) ?_
         refine x_load (xv := Vp b15 2) (Vi x13.1.2.2.1) rfl rfl rfl (reads_box tcell3 hb15 nn 2 _ rfl) ?_
         refine x_u 2 [(177, .bool (j_s13_l27 != x13.1.2.2.1)), (178, .bool (j_s13_l27 != x13.1.2.2.1))] ?_
         refine x_if 178 (j_s13_l27 != x13.1.2.2.1) rfl h (fun h => ?_) (fun h => ?_)
         · refine x_u 2 [(179, Vl a0_19 x18.1 c0_19), (180, Vi j_s13_l27)] ?_
           obtain ⟨x91, hx91, h⟩ := bind_some h
           obtain ⟨ad91, cs91, hr91, hc91, hR⟩ := reads_index (Mo := []) tsl26 hf19_1 hx91
           obtain ⟨a92, c92, rfl, hs92⟩ := hR
           refine x_indexAddr (xv := Vl a0_19 x18.1 c0_19) (yv := Vi j_s13_l27) (.pointer (some ad91)) rfl rfl rfl rfl hr91 ?_
           refine x_load (xv := .pointer (some ad91)) (Vl a92 x91 c92) rfl rfl rfl (reads_cell0 tcell22 hc91 (fun _ h => by cases h)) ?_
           refine x_len (vs := [Vl a92 x91 c92]) (Vi ((x91).length : Int)) rfl rfl rfl (reads_len tsl22 _ _ _ _ _) ?_
           refine x_u 1 [(184, Vl a32_l30 d32_l30 c32_l30)] ?_
           refine x_len (vs := [Vl a32_l30 d32_l30 c32_l30]) (Vi ((d32_l30).length : Int)) rfl rfl rfl (reads_len tsl22 _ _ _ _ _) ?_
           refine x_u 3 [(186, .bool (((x91).length : Int) != ((d32_l30).length : Int))), (187, .bool (((x91).length : Int) != ((d32_l30).length : Int))), (188, .bool (((x91).length : Int) != ((d32_l30).length : Int)))] ?_
           refine x_ek ?_
           refine c_norm [(3, Vp b0_3 0), (4, Vl a0_7 x6.1 c0_7), (5, Vl a2_7 x6.2.1 c2_7), (6, Vl a10_l11 d10_l11 c10_l11), (7, Vi i_s7_l11), (8, Vp b15 0), (9, Vl a0_19 x18.1 c0_19), (12, Vi x22.2), (13, Vi j_s13_l27), (188, .bool (((x91).length : Int) != ((d32_l30).length : Int)))] ⟨rfl, rfl, rfl, rfl, rfl, rfl, rfl, rfl, rfl, rfl, trivial⟩ (fun J => ?_)
           refine c_if (((x91).length : Int) != ((d32_l30).length : Int)) rfl h (fun h => ?_) (fun h => ?_)
           · refine c_sp ?_
             refine x_u 1 [(2, .bool false)] ?_
             refine x_ek ?_
             refine c_ret ?_
             refine k_block_ret ?_
             refine k_then_ret ?_
             have hx := some_inj h
             subst hx
             have hy := some_inj hn27
             subst hy
             replace h := h27
             refine k_then_ret ?_
             refine k_block_ret ?_
             refine k_then_ret ?_
             refine k_block_ret ?_
             refine k_then_ret ?_
             have hx := some_inj h
             subst hx
             have hy := some_inj hn11
             subst hy
             replace h := h11
             refine k_then_ret ?_
             refine k_block_ret ?_
             refine k_then_ret ?_
             refine r_ret (r_vals [.bool false] ⟨rfl, trivial⟩ ?_)
             have hx := some_inj h
             subst hx
             have hmr : MS w82 [M] := hms.pick [some 4] _ rfl
             have hsu : ∀ x ∈ fl [M], x ∈ fl [[b0_3], [b15], blk a32_l30, blk a58_l56, M] := pick_sub [some 4] _ rfl
             exact ⟨rfl, hev⟩
           refine c_skip ?_
           refine k_block ?_
           refine k_then ?_
           refine c_plain ?_
           refine x_u 3 [(73, Vi j_s13_l27), (74, Vi (IntKind.i64.wrap (j_s13_l27 + 1))), (13, Vi (IntKind.i64.wrap (j_s13_l27 + 1)))] ?_
           refine x_end rfl ?_
           have hx := some_inj h
           subst hx
           have hpk : MS w82 [[b0_3], [b15], M] := hms.pick [some 0, some 1, some 4] _ rfl
           have hsu : ∀ x ∈ fl [[b0_3], [b15], M], x ∈ fl [[b0_3], [b15], blk a32_l30, blk a58_l56, M] := pick_sub [some 0, some 1, some 4] _ rfl
           replace hf3_2 := hf3_2.sub hsu
           replace hf7_1 := hf7_1.sub hsu
           replace hf7_2 := hf7_2.sub hsu
           replace hj10_l11 := hj10_l11.sub hsu
           replace hf19_1 := hf19_1.sub hsu
           replace hms := hpk
           replace hfr : FR w.heap.size [[b0_3], [b15]] := hfr.pick [some 0, some 1] _ rfl
           clear hpk hsu
           exact k_then ⟨(m27, IntKind.i64.wrap (j_s13_l27 + 1)), ⟨rfl, rfl, rfl, rfl, rfl, rfl, rfl, rfl, rfl, trivial⟩, ⟨hn27, hev, hms, hfr, hf3_2, hf3_1, hf7_1, hf7_2, hj10_l11, hb15, hf19_1⟩, Nat.lt_succ_self _⟩
         refine x_u 10 [(179, undef), (180, undef), (181, undef), (182, undef), (183, undef), (184, undef), (185, undef), (186, undef), (187, .bool false), (188, .bool false)] ?_
         refine x_ek ?_
         refine c_norm [(3, Vp b0_3 0), (4, Vl a0_7 x6.1 c0_7), (5, Vl a2_7 x6.2.1 c2_7), (6, Vl a10_l11 d10_l11 c10_l11), (7, Vi i_s7_l11), (8, Vp b15 0), (9, Vl a0_19 x18.1 c0_19), (12, Vi x22.2), (13, Vi j_s13_l27), (188, .bool false)] ⟨rfl, rfl, rfl, rfl, rfl, rfl, rfl, rfl, rfl, rfl, trivial⟩ (fun J => ?_)
         refine c_false rfl ?_
         refine c_skip ?_
         refine k_block ?_
         refine k_then ?_
         refine c_plain ?_
         refine x_u 3 [(73, Vi j_s13_l27), (74, Vi (IntKind.i64.wrap (j_s13_l27 + 1))), (13, Vi (IntKind.i64.wrap (j_s13_l27 + 1)))] ?_
         refine x_end rfl ?_
         have hx := some_inj h
         subst hx
         have hpk : MS w82 [[b0_3], [b15], M] := hms.pick [some 0, some 1, some 4] _ rfl
         have hsu : ∀ x ∈ fl [[b0_3], [b15], M], x ∈ fl [[b0_3], [b15], blk a32_l30, blk a58_l56, M] := pick_sub [some 0, some 1, some 4] _ rfl
         replace hf3_2 := hf3_2.sub hsu
         replace hf7_1 := hf7_1.sub hsu
         replace hf7_2 := hf7_2.sub hsu
         replace hj10_l11 := hj10_l11.sub hsu
         replace hf19_1 := hf19_1.sub hsu
         replace hms := hpk
         replace hfr : FR w.heap.size [[b0_3], [b15]] := hfr.pick [some 0, some 1] _ rfl
         clear hpk hsu
         exact k_then ⟨(m27, IntKind.i64.wrap (j_s13_l27 + 1)), ⟨rfl, rfl, rfl, rfl, rfl, rfl, rfl, rfl, rfl, trivial⟩, ⟨hn27, hev, hms, hfr, hf3_2, hf3_1, hf7_1, hf7_2, hj10_l11, hb15, hf19_1⟩, Nat.lt_succ_self _⟩
       refine x_u 5 [(156, undef), (157, undef), (158, .bool false), (159, .bool false), (160, .bool false)] ?_
       refine x_fieldAddr (xv := Vp b15 0) (Vp b15 3) rfl rfl rfl (reads_field tfld30_3 _ _) ?_
       refine x_load (xv := Vp b15 3) (.bool x13.1.2.2.2) rfl rfl rfl (reads_box tcell4 hb15 nn 3 _ rfl) ?_
       refine x_u 2 [(163, .bool (!x13.1.2.2.2)), (164, .bool (!x13.1.2.2.2))] ?_
       refine x_if 164 (!x13.1.2.2.2) rfl h (fun h => ?_) (fun h => ?_)
       · refine x_u 2 [(165, Vi x22.2), (166, Vl a32_l30 d32_l30 c32_l30)] ?_
         refine x_len (vs := [Vl a32_l30 d32_l30 c32_l30]) (Vi ((d32_l30).length : Int)) rfl rfl rfl (reads_len tsl22 _ _ _ _ _) ?_
         refine x_u 6 [(168, .bool (x22.2 != ((d32_l30).length : Int))), (169, .bool (x22.2 != ((d32_l30).length : Int))), (170, .bool (x22.2 != ((d32_l30).length : Int))), (171, .bool (x22.2 != ((d32_l30).length : Int))), (172, .bool (x22.2 != ((d32_l30).length : Int))), (173, .bool (x22.2 != ((d32_l30).length : Int)))] ?_
         refine x_if 173 (x22.2 != ((d32_l30).length : Int)) rfl h (fun h => ?_) (fun h => ?_)
         · refine x_u 15 [(174, undef), (175, undef), (176, undef), (177, undef), (178, undef), (179, undef), (180, undef), (181, undef), (182, undef), (183, undef), (184, undef), (185, undef), (186, undef), (187, undef), (188, .bool true)] ?_
           refine x_ek ?_
           refine c_norm [(3, Vp b0_3 0), (4, Vl a0_7 x6.1 c0_7), (5, Vl a2_7 x6.2.1 c2_7), (6, Vl a10_l11 d10_l11 c10_l11), (7, Vi i_s7_l11), (8, Vp b15 0), (9, Vl a0_19 x18.1 c0_19), (12, Vi x22.2), (13, Vi j_s13_l27), (188, .bool true)] ⟨rfl, rfl, rfl, rfl, rfl, rfl, rfl, rfl, rfl, rfl, trivial⟩ (fun J => ?_)
           refine c_true rfl ?_
           refine c_sp ?_
           refine x_u 1 [(2, .bool false)] ?_
           refine x_ek ?_
           refine c_ret ?_
           refine k_block_ret ?_
           refine k_then_ret ?_
           have hx := some_inj h
           subst hx
           have hy := some_inj hn27
           subst hy
           replace h := h27
           refine k_then_ret ?_
           refine k_block_ret ?_
           refine k_then_ret ?_
           refine k_block_ret ?_
           refine k_then_ret ?_
           have hx := some_inj h
           subst hx
           have hy := some_inj hn11
           subst hy
           replace h := h11
           refine k_then_ret ?_
           refine k_block_ret ?_
           refine k_then_ret ?_
           refine r_ret (r_vals [.bool false] ⟨rfl, trivial⟩ ?_)
           have hx := some_inj h
           subst hx
           have hmr : MS w82 [M] := hms.pick [some 4] _ rfl
           have hsu : ∀ x ∈ fl [M], x ∈ fl [[b0_3], [b15], blk a32_l30, blk a58_l56, M] := pick_sub [some 4] _ rfl
           exact ⟨rfl, hev⟩
         refine x_u 1 [(174, Vi j_s13_l27)] ?_
         refine x_fieldAddr (xv := Vp b15 0) (Vp b15 2) rfl rfl rfl (reads_field tfld30_2 _ _) ?_
         refine x_load (xv := Vp b15 2) (Vi x13.1.2.2.1) rfl rfl rfl (reads_box tcell3 hb15 nn 2 _ rfl) ?_
         refine x_u 2 [(177, .bool (j_s13_l27 != x13.1.2.2.1)), (178, .bool (j_s13_l27 != x13.1.2.2.1))] ?_
         refine x_if 178 (j_s13_l27 != x13.1.2.2.1) rfl h (fun h => ?_) (fun h => ?_)
         · refine x_u 2 [(179, Vl a0_19 x18.1 c0_19), (180, Vi j_s13_l27)] ?_
           obtain ⟨x95, hx95, h⟩ := bind_some h
           obtain ⟨ad95, cs95, hr95, hc95, hR⟩ := reads_index (Mo := []) tsl26 hf19_1 hx95
           obtain ⟨a96, c96, rfl, hs96⟩ := hR
           refine x_indexAddr (xv := Vl a0_19 x18.1 c0_19) (yv := Vi j_s13_l27) (.pointer (some ad95)) rfl rfl rfl rfl hr95 ?_
           refine x_load (xv := .pointer (some ad95)) (Vl a96 x95 c96) rfl rfl rfl (reads_cell0 tcell22 hc95 (fun _ h => by cases h)) ?_
           refine x_len (vs := [Vl a96 x95 c96]) (Vi ((x95).length : Int)) rfl rfl rfl (reads_len tsl22 _ _ _ _ _) ?_
           refine x_u 1 [(184, Vl a32_l30 d32_l30 c32_l30)] ?_
           refine x_len (vs := [Vl a32_l30 d32_l30 c32_l30]) (Vi ((d32_l30).length : Int)) rfl rfl rfl (reads_len tsl22 _ _ _ _ _) ?_
           refine x_u 3 [(186, .bool (((x95).length : Int) != ((d32_l30).length : Int))), (187, .bool (((x95).length : Int) != ((d32_l30).length : Int))), (188, .bool (((x95).length : Int) != ((d32_l30).length : Int)))] ?_
           refine x_ek ?_
           refine c_norm [(3, Vp b0_3 0), (4, Vl a0_7 x6.1 c0_7), (5, Vl a2_7 x6.2.1 c2_7), (6, Vl a10_l11 d10_l11 c10_l11), (7, Vi i_s7_l11), (8, Vp b15 0), (9, Vl a0_19 x18.1 c0_19), (12, Vi x22.2), (13, Vi j_s13_l27), (188, .bool (((x95).length : Int) != ((d32_l30).length : Int)))] ⟨rfl, rfl, rfl, rfl, rfl, rfl, rfl, rfl, rfl, rfl, trivial⟩ (fun J => ?_)
           refine c_if (((x95).length : Int) != ((d32_l30).length : Int)) rfl h (fun h => ?_) (fun h => ?_)
           · refine c_sp ?_
             refine x_u 1 [(2, .bool false)] ?_
             refine x_ek ?_
             refine c_ret ?_
             refine k_block_ret ?_
             refine k_then_ret ?_
             have hx := some_inj h
             subst hx
             have hy := some_inj hn27
             subst hy
             replace h := h27
             refine k_then_ret ?_
             refine k_block_ret ?_
             refine k_then_ret ?_
             refine k_block_ret ?_
             refine k_then_ret ?_
             have hx := some_inj h
             subst hx
             have hy := some_inj hn11
             subst hy
             replace h := h11
             refine k_then_ret ?_
             refine k_block_ret ?_
             refine k_then_ret ?_
             refine r_ret (r_vals [.bool false] ⟨rfl, trivial⟩ ?_)
             have hx := some_inj h
             subst hx
             have hmr : MS w82 [M] := hms.pick [some 4] _ rfl
             have hsu : ∀ x ∈ fl [M], x ∈ fl [[b0_3], [b15], blk a32_l30, blk a58_l56, M] := pick_sub [some 4] _ rfl
             exact ⟨rfl, hev⟩
           refine c_skip ?_
           refine k_block ?_
           refine k_then ?_
           refine c_plain ?_
           refine x_u 3 [(73, Vi j_s13_l27), (74, Vi (IntKind.i64.wrap (j_s13_l27 + 1))), (13, Vi (IntKind.i64.wrap (j_s13_l27 + 1)))] ?_
           refine x_end rfl ?_
           have hx := some_inj h
           subst hx
           have hpk : MS w82 [[b0_3], [b15], M] := hms.pick [some 0, some 1, some 4] _ rfl
           have hsu : ∀ x ∈ fl [[b0_3], [b15], M], x ∈ fl [[b0_3], [b15], blk a32_l30, blk a58_l56, M] := pick_sub [some 0, some 1, some 4] _ rfl
           replace hf3_2 := hf3_2.sub hsu
           replace hf7_1 := hf7_1.sub hsu
           replace hf7_2 := hf7_2.sub hsu
           replace hj10_l11 := hj10_l11.sub hsu
           replace hf19_1 := hf19_1.sub hsu
           replace hms := hpk
           replace hfr : FR w.heap.size [[b0_3], [b15]] := hfr.pick [some 0, some 1] _ rfl
           clear hpk hsu
           exact k_then ⟨(m27, IntKind.i64.wrap (j_s13_l27 + 1)), ⟨rfl, rfl, rfl, rfl, rfl, rfl, rfl, rfl, rfl, trivial⟩, ⟨hn27, hev, hms, hfr, hf3_2, hf3_1, hf7_1, hf7_2, hj10_l11, hb15, hf19_1⟩, Nat.lt_succ_self _⟩
         refine x_u 10 [(179, undef), (180, undef), (181, undef), (182, undef), (183, undef), (184, undef), (185, undef), (186, undef), (187, .bool false), (188, .bool false)] ?_
         refine x_ek ?_
         refine c_norm [(3, Vp b0_3 0), (4, Vl a0_7 x6.1 c0_7), (5, Vl a2_7 x6.2.1 c2_7), (6, Vl a10_l11 d10_l11 c10_l11), (7, Vi i_s7_l11), (8, Vp b15 0), (9, Vl a0_19 x18.1 c0_19), (12, Vi x22.2), (13, Vi j_s13_l27), (188, .bool false)] ⟨rfl, rfl, rfl, rfl, rfl, rfl, rfl, rfl, rfl, rfl, trivial⟩ (fun J => ?_)
         refine c_false rfl ?_
         refine c_skip ?_
         refine k_block ?_
         refine k_then ?_
         refine c_plain ?_
         refine x_u 3 [(73, Vi j_s13_l27), (74, Vi (IntKind.i64.wrap (j_s13_l27 + 1))), (13, Vi (IntKind.i64.wrap (j_s13_l27 + 1)))] ?_
         refine x_end rfl ?_
         have hx := some_inj h
         subst hx
         have hpk : MS w82 [[b0_3], [b15], M] := hms.pick [some 0, some 1, some 4] _ rfl
         have hsu : ∀ x ∈ fl [[b0_3], [b15], M], x ∈ fl [[b0_3], [b15], blk a32_l30, blk a58_l56, M] := pick_sub [some 0, some 1, some 4] _ rfl
         replace hf3_2 := hf3_2.sub hsu
         replace hf7_1 := hf7_1.sub hsu
         replace hf7_2 := hf7_2.sub hsu
         replace hj10_l11 := hj10_l11.sub hsu
         replace hf19_1 := hf19_1.sub hsu
         replace hms := hpk
         replace hfr : FR w.heap.size [[b0_3], [b15]] := hfr.pick [some 0, some 1] _ rfl
         clear hpk hsu
         exact k_then ⟨(m27, IntKind.i64.wrap (j_s13_l27 + 1)), ⟨rfl, rfl, rfl, rfl, rfl, rfl, rfl, rfl, rfl, trivial⟩, ⟨hn27, hev, hms, hfr, hf3_2, hf3_1, hf7_1, hf7_2, hj10_l11, hb15, hf19_1⟩, Nat.lt_succ_self _⟩
       refine x_u 10 [(165, undef), (166, undef), (167, undef), (168, undef), (169, .bool false), (170, .bool false), (171, .bool false), (172, .bool false), (173, .bool false), (174, Vi j_s13_l27)] ?_
       refine x_fieldAddr (xv := Vp b15 0) (Vp b15 2) rfl rfl rfl (reads_field tfld30_2 _ _) ?_
       refine x_load (xv := Vp b15 2) (Vi x13.1.2.2.1) rfl rfl rfl (reads_box tcell3 hb15 nn 2 _ rfl) ?_
       refine x_u 2 [(177, .bool (j_s13_l27 != x13.1.2.2.1)), (178, .bool (j_s13_l27 != x13.1.2.2.1))] ?_
       refine x_if 178 (j_s13_l27 != x13.1.2.2.1) rfl h (fun h => ?_) (fun h => ?_)
       · refine x_u 2 [(179, Vl a0_19 x18.1 c0_19), (180, Vi j_s13_l27)] ?_
         obtain ⟨x99, hx99, h⟩ := bind_some h
         obtain ⟨ad99, cs99, hr99, hc99, hR⟩ := reads_index (Mo := []) tsl26 hf19_1 hx99
         obtain ⟨a100, c100, rfl, hs100⟩ := hR
         refine x_indexAddr (xv := Vl a0_19 x18.1 c0_19) (yv := Vi j_s13_l27) (.pointer (some ad99)) rfl rfl rfl rfl hr99 ?_
         refine x_load (xv := .pointer (some ad99)) (Vl a100 x99 c100) rfl rfl rfl (reads_cell0 tcell22 hc99 (fun _ h => by cases h)) ?_
         refine x_len (vs := [Vl a100 x99 c100]) (Vi ((x99).length : Int)) rfl rfl rfl (reads_len tsl22 _ _ _ _ _) ?_
         refine x_u 1 [(184, Vl a32_l30 d32_l30 c32_l30)] ?_
         refine x_len (vs := [Vl a32_l30 d32_l30 c32_l30]) (Vi ((d32_l30).length : Int)) rfl rfl rfl (reads_len tsl22 _ _ _ _ _) ?_
         refine x_u 3 [(186, .bool (((x99).length : Int) != ((d32_l30).length : Int))), (187, .bool (((x99).length : Int) != ((d32_l30).length : Int))), (188, .bool (((x99).length : Int) != ((d32_l30).length : Int)))] ?_
         refine x_ek ?_
         refine c_norm [(3, Vp b0_3 0), (4, Vl a0_7 x6.1 c0_7), (5, Vl a2_7 x6.2.1 c2_7), (6, Vl a10_l11 d10_l11 c10_l11), (7, Vi i_s7_l11), (8, Vp b15 0), (9, Vl a0_19 x18.1 c0_19), (12, Vi x22.2), (13, Vi j_s13_l27), (188, .bool (((x99).length : Int) != ((d32_l30).length : Int)))] ⟨rfl, rfl, rfl, rfl, rfl, rfl, rfl, rfl, rfl, rfl, trivial⟩ (fun J => ?_)
         refine c_if (((x99).length : Int) != ((d32_l30).length : Int)) rfl h (fun h => ?_) (fun h => ?_)
         · refine c_sp ?_
           refine x_u 1 [(2, .bool false)] ?_
           refine x_ek ?_
           refine c_ret ?_
           refine k_block_ret ?_
           refine k_then_ret ?_
           have hx := some_inj h
           subst hx
           have hy := some_inj hn27
           subst hy
           replace h := h27
           refine k_then_ret ?_
           refine k_block_ret ?_
           refine k_then_ret ?_
           refine k_block_ret ?_
           refine k_then_ret ?_
           have hx := some_inj h
           subst hx
           have hy := some_inj hn11
           subst hy
           replace h := h11
           refine k_then_ret ?_
           refine k_block_ret ?_
           refine k_then_ret ?_
           refine r_ret (r_vals [.bool false] ⟨rfl, trivial⟩ ?_)
           have hx := some_inj h
           subst hx
           have hmr : MS w82 [M] := hms.pick [some 4] _ rfl
           have hsu : ∀ x ∈ fl [M], x ∈ fl [[b0_3], [b15], blk a32_l30, blk a58_l56, M] := pick_sub [some 4] _ rfl
           exact ⟨rfl, hev⟩
         refine c_skip ?_
         refine k_block ?_
         refine k_then ?_
         refine c_plain ?_
         refine x_u 3 [(73, Vi j_s13_l27), (74, Vi (IntKind.i64.wrap (j_s13_l27 + 1))), (13, Vi (IntKind.i64.wrap (j_s13_l27 + 1)))] ?_
         refine x_end rfl ?_
         have hx := some_inj h
         subst hx
         have hpk : MS w82 [[b0_3], [b15], M] := hms.pick [some 0, some 1, some 4] _ rfl
         have hsu : ∀ x ∈ fl [[b0_3], [b15], M], x ∈ fl [[b0_3], [b15], blk a32_l30, blk a58_l56, M] := pick_sub [some 0, some 1, some 4] _ rfl
         replace hf3_2 := hf3_2.sub hsu
         replace hf7_1 := hf7_1.sub hsu
         replace hf7_2 := hf7_2.sub hsu
         replace hj10_l11 := hj10_l11.sub hsu
         replace hf19_1 := hf19_1.sub hsu
         replace hms := hpk
         replace hfr : FR w.heap.size [[b0_3], [b15]] := hfr.pick [some 0, some 1] _ rfl
         clear hpk hsu
         exact k_then ⟨(m27, IntKind.i64.wrap (j_s13_l27 + 1)), ⟨rfl, rfl, rfl, rfl, rfl, rfl, rfl, rfl, rfl, trivial⟩, ⟨hn27, hev, hms, hfr, hf3_2, hf3_1, hf7_1, hf7_2, hj10_l11, hb15, hf19_1⟩, Nat.lt_succ_self _⟩
       refine x_u 10 [(179, undef), (180, undef), (181, undef), (182, undef), (183, undef), (184, undef), (185, undef), (186, undef), (187, .bool false), (188, .bool false)] ?_
       refine x_ek ?_
       refine c_norm [(3, Vp b0_3 0), (4, Vl a0_7 x6.1 c0_7), (5, Vl a2_7 x6.2.1 c2_7), (6, Vl a10_l11 d10_l11 c10_l11), (7, Vi i_s7_l11), (8, Vp b15 0), (9, Vl a0_19 x18.1 c0_19), (12, Vi x22.2), (13, Vi j_s13_l27), (188, .bool false)] ⟨rfl, rfl, rfl, rfl, rfl, rfl, rfl, rfl, rfl, rfl, trivial⟩ (fun J => ?_)
       refine c_false rfl ?_
       refine c_skip ?_
       refine k_block ?_
       refine k_then ?_
       refine c_plain ?_
       refine x_u 3 [(73, Vi j_s13_l27), (74, Vi (IntKind.i64.wrap (j_s13_l27 + 1))), (13, Vi (IntKind.i64.wrap (j_s13_l27 + 1)))] ?_
       refine x_end rfl ?_
       have hx := some_inj h
       subst hx
       have hpk : MS w82 [[b0_3], [b15], M] := hms.pick [some 0, some 1, some 4] _ rfl
       have hsu : ∀ x ∈ fl [[b0_3], [b15], M], x ∈ fl [[b0_3], [b15], blk a32_l30, blk a58_l56, M] := pick_sub [some 0, some 1, some 4] _ rfl
       replace hf3_2 := hf3_2.sub hsu
       replace hf7_1 := hf7_1.sub hsu
       replace hf7_2 := hf7_2.sub hsu
       replace hj10_l11 := hj10_l11.sub hsu
       replace hf19_1 := hf19_1.sub hsu
       replace hms := hpk
       replace hfr : FR w.heap.size [[b0_3], [b15]] := hfr.pick [some 0, some 1] _ rfl
       clear hpk hsu
       exact k_then ⟨(m27, IntKind.i64.wrap (j_s13_l27 + 1)), ⟨rfl, rfl, rfl, rfl, rfl, rfl, rfl, rfl, rfl, trivial⟩, ⟨hn27, hev, hms, hfr, hf3_2, hf3_1, hf7_1, hf7_2, hj10_l11, hb15, hf19_1⟩, Nat.lt_succ_self _⟩
     refine x_u 32 [(143, undef), (144, undef), (145, undef), (146, undef), (147, undef), (148, undef), (149, undef), (150, undef), (151, undef), (152, undef), (153, undef), (154, undef), (155, undef), (156, undef), (157, undef), (158, undef), (159, undef), (160, undef), (161, undef), (162, undef), (163, undef), (164, undef), (165, undef), (166, undef), (167, undef), (168, undef), (169, undef), (170, undef), (171, .bool false), (172, .bool false), (173, .bool false), (174, Vi j_s13_l27)] ?_
     refine x_fieldAddr (xv := Vp b15 0) (Vp b15 2) rfl rfl rfl (reads_field tfld30_2 _ _) ?_
     refine x_load (xv := Vp b15 2) (Vi x13.1.2.2.1) rfl rfl rfl (reads_box tcell3 hb15 nn 2 _ rfl) ?_
     refine x_u 2 [(177, .bool (j_s13_l27 != x13.1.2.2.1)), (178, .bool (j_s13_l27 != x13.1.2.2.1))] ?_
     refine x_if 178 (j_s13_l27 != x13.1.2.2.1) rfl h (fun h => ?_) (fun h => ?_)
     · refine x_u 2 [(179, Vl a0_19 x18.1 c0_19), (180, Vi j_s13_l27)] ?_
       obtain ⟨x103, hx103, h⟩ := bind_some h
       obtain ⟨ad103, cs103, hr103, hc103, hR⟩ := reads_index (Mo := []) tsl26 hf19_1 hx103
       obtain ⟨a104, c104, rfl, hs104⟩ := hR
       refine x_indexAddr (xv := Vl a0_19 x18.1 c0_19) (yv := Vi j_s13_l27) (.pointer (some ad103)) rfl rfl rfl rfl hr103 ?_
       refine x_load (xv := .pointer (some ad103)) (Vl a104 x103 c104) rfl rfl rfl (reads_cell0 tcell22 hc103 (fun _ h => by cases h)) ?_
       refine x_len (vs := [Vl a104 x103 c104]) (Vi ((x103).length : Int)) rfl rfl rfl (reads_len tsl22 _ _ _ _ _) ?_
       refine x_u 1 [(184, Vl a32_l30 d32_l30 c32_l30)] ?_
       refine x_len (vs := [Vl a32_l30 d32_l30 c32_l30]) (Vi ((d32_l30).length : Int)) rfl rfl rfl (reads_len tsl22 _ _ _ _ _) ?_
       refine x_u 3 [(186, .bool (((x103).length : Int) != ((d32_l30).length : Int))), (187, .bool (((x103).length : Int) != ((d32_l30).length : Int))), (188, .bool (((x103).length : Int) != ((d32_l30).length : Int)))] ?_
       refine x_ek ?_
       refine c_norm [(3, Vp b0_3 0), (4, Vl a0_7 x6.1 c0_7), (5, Vl a2_7 x6.2.1 c2_7), (6, Vl a10_l11 d10_l11 c10_l11), (7, Vi i_s7_l11), (8, Vp b15 0), (9, Vl a0_19 x18.1 c0_19), (12, Vi x22.2), (13, Vi j_s13_l27), (188, .bool (((x103).length : Int) != ((d32_l30).length : Int)))] ⟨rfl, rfl, rfl, rfl, rfl, rfl, rfl, rfl, rfl, rfl, trivial⟩ (fun J => ?_)
       refine c_if (((x103).length : Int) != ((d32_l30).length : Int)) rfl h (fun h => ?_) (fun h => ?_)
       · refine c_sp ?_
         refine x_u 1 [(2, .bool false)] ?_
         refine x_ek ?_
         refine c_ret ?_
         refine k_block_ret ?_
         refine k_then_ret ?_
         have hx := some_inj h
         subst hx
         have hy := some_inj hn27
         subst hy
         replace h := h27
         refine k_then_ret ?_
         refine k_block_ret ?_
         refine k_then_ret ?_
         refine k_block_ret ?_
         refine k_then_ret ?_
         have hx := some_inj h
         subst hx
         have hy := some_inj hn11
         subst hy
         replace h := h11
         refine k_then_ret ?_
         refine k_block_ret ?_
         refine k_then_ret ?_
         refine r_ret (r_vals [.bool false] ⟨rfl, trivial⟩ ?_)
         have hx := some_inj h
         subst hx
         have hmr : MS w82 [M] := hms.pick [some 4] _ rfl
         have hsu : ∀ x ∈ fl [M], x ∈ fl [[b0_3], [b15], blk a32_l30, blk a58_l56, M] := pick_sub [some 4] _ rfl
         exact ⟨rfl, hev⟩
       refine c_skip ?_
       refine k_block ?_
       refine k_then ?_
       refine c_plain ?_
       refine x_u 3 [(73, Vi j_s13_l27), (74, Vi (IntKind.i64.wrap (j_s13_l27 + 1))), (13, Vi (IntKind.i64.wrap (j_s13_l27 + 1)))] ?_
       refine x_end rfl ?_
       have hx := some_inj h
       subst hx
       have hpk : MS w82 [[b0_3], [b15], M] := hms.pick [some 0, some 1, some 4] _ rfl
       have hsu : ∀ x ∈ fl [[b0_3], [b15], M], x ∈ fl [[b0_3], [b15], blk a32_l30, blk a58_l56, M] := pick_sub [some 0, some 1, some 4] _ rfl
       replace hf3_2 := hf3_2.sub hsu
       replace hf7_1 := hf7_1.sub hsu
       replace hf7_2 := hf7_2.sub hsu
       replace hj10_l11 := hj10_l11.sub hsu
       replace hf19_1 := hf19_1.sub hsu
       replace hms := hpk
       replace hfr : FR w.heap.size [[b0_3], [b15]] := hfr.pick [some 0, some 1] _ rfl
       clear hpk hsu
       exact k_then ⟨(m27, IntKind.i64.wrap (j_s13_l27 + 1)), ⟨rfl, rfl, rfl, rfl, rfl, rfl, rfl, rfl, rfl, trivial⟩, ⟨hn27, hev, hms, hfr, hf3_2, hf3_1, hf7_1, hf7_2, hj10_l11, hb15, hf19_1⟩, Nat.lt_succ_self _⟩
     refine x_u 10 [(179, undef), (180, undef), (181, undef), (182, undef), (183, undef), (184, undef), (185, undef), (186, undef), (187, .bool false), (188, .bool false)] ?_
     refine x_ek ?_
     refine c_norm [(3, Vp b0_3 0), (4, Vl a0_7 x6.1 c0_7), (5, Vl a2_7 x6.2.1 c2_7), (6, Vl a10_l11 d10_l11 c10_l11), (7, Vi i_s7_l11), (8, Vp b15 0), (9, Vl a0_19 x18.1 c0_19), (12, Vi x22.2), (13, Vi j_s13_l27), (188, .bool false)] ⟨rfl, rfl, rfl, rfl, rfl, rfl, rfl, rfl, rfl, rfl, trivial⟩ (fun J => ?_)
     refine c_false rfl ?_
     refine c_skip ?_
     refine k_block ?_
     refine k_then ?_
     refine c_plain ?_
     refine x_u 3 [(73, Vi j_s13_l27), (74, Vi (IntKind.i64.wrap (j_s13_l27 + 1))), (13, Vi (IntKind.i64.wrap (j_s13_l27 + 1)))] ?_
     refine x_end rfl ?_
     have hx := some_inj h
     subst hx
     have hpk : MS w82 [[b0_3], [b15], M] := hms.pick [some 0, some 1, some 4] _ rfl
     have hsu : ∀ x ∈ fl [[b0_3], [b15], M], x ∈ fl [[b0_3], [b15], blk a32_l30, blk a58_l56, M] := pick_sub [some 0, some 1, some 4] _ rfl
     replace hf3_2 := hf3_2.sub hsu
     replace hf7_1 := hf7_1.sub hsu
     replace hf7_2 := hf7_2.sub hsu
     replace hj10_l11 := hj10_l11.sub hsu
     replace hf19_1 := hf19_1.sub hsu
     replace hms := hpk
     replace hfr : FR w.heap.size [[b0_3], [b15]] := hfr.pick [some 0, some 1] _ rfl
     clear hpk hsu
     exact k_then ⟨(m27, IntKind.i64.wrap (j_s13_l27 + 1)), ⟨rfl, rfl, rfl, rfl, rfl, rfl, rfl, rfl, rfl, trivial⟩, ⟨hn27, hev, hms, hfr, hf3_2, hf3_1, hf7_1, hf7_2, hj10_l11, hb15, hf19_1⟩, Nat.lt_succ_self _⟩
   refine c_exit ?_
   refine k_then_exit ?_
   have hx := some_inj h
   subst hx
   have hy := some_inj hn27
   subst hy
   replace h := h27
   refine k_then_exit ?_
   refine k_block_in ?_
   refine k_then ?_
   refine c_norm [(3, Vp b0_3 0), (4, Vl a0_7 x6.1 c0_7), (5, Vl a2_7 x6.2.1 c2_7), (7, Vi i_s7_l11), (9, Vl a0_19 x18.1 c0_19)] ⟨rfl, rfl, rfl, rfl, rfl, trivial⟩ (fun J => ?_)
   refine c_plain ?_
   refine x_u 2 [(189, Vl a0_19 x18.1 c0_19), (6, Vl a0_19 x18.1 c0_19)] ?_
   refine x_end rfl ?_
   refine k_block ?_
   refine k_then ?_
   refine c_plain ?_
   refine x_u 3 [(28, Vi i_s7_l11), (29, Vi (IntKind.i64.wrap (i_s7_l11 + 1))), (7, Vi (IntKind.i64.wrap (i_s7_l11 + 1)))] ?_
   refine x_end rfl ?_
   have hx := some_inj h
   subst hx
   have hpk : MS wl27 [[b0_3], M] := hms.pick [some 0, some 2] _ rfl
   have hsu : ∀ x ∈ fl [[b0_3], M], x ∈ fl [[b0_3], [b15], M] := pick_sub [some 0, some 2] _ rfl
   replace hf3_2 := hf3_2.sub hsu
   replace hf7_1 := hf7_1.sub hsu
   replace hf7_2 := hf7_2.sub hsu
   replace hf19_1 := hf19_1.sub hsu
   replace hms := hpk
   replace hfr : FR w.heap.size [[b0_3]] := hfr.pick [some 0] _ rfl
   clear hpk hsu
   exact k_then ⟨(m11, x13.2, x18.1, IntKind.i64.wrap (i_s7_l11 + 1), a0_19, c0_19), ⟨rfl, rfl, rfl, rfl, rfl, trivial⟩, ⟨hn11, hev, hms, hfr, hf3_2, hf3_1, hf7_1, hf7_2, hf19_1⟩, Nat.lt_succ_self _⟩
 refine c_exit ?_
 refine k_then_exit ?_
 have hx := some_inj h
 subst hx
 have hy := some_inj hn11
 subst hy
 replace h := h11
 refine k_then_exit ?_
 refine k_block_in ?_
 refine k_then ?_
 refine c_norm [] trivial (fun J => ?_)
 refine c_sp ?_
 obtain ⟨x107, hx, h⟩ := bind_some h
 have hcall := law42_sane_w _ wl11 hx
 refine x_call 13 #[] #[] [] _ rfl rfl rfl rfl hcall ?_
 rintro v w108 ⟨rfl, he108⟩
 clear hcall hx
 refine inl1 ?_
 have hst := Stp.ext (ls := [[b0_3], M]) he108
 replace hf3_1 := he108.box hf3_1 nn
 replace hf3_2 := hf3_2.step hst
 replace hms := hms.ev he108
 replace hev := hev.ext he108
 refine x_u 1 [(2, .bool x107)] ?_
 refine x_ek ?_
 refine c_ret ?_
 refine r_ret (r_vals [.bool x107] ⟨rfl, trivial⟩ ?_)
 have hx := some_inj h
 subst hx
 have hmr : MS w108 [M] := hms.pick [some 1] _ rfl
 have hsu : ∀ x ∈ fl [M], x ∈ fl [[b0_3], M] := pick_sub [some 1] _ rfl
 exact ⟨rfl, hev⟩
end Go.Proofs.Ytgeceohdppecgaa
