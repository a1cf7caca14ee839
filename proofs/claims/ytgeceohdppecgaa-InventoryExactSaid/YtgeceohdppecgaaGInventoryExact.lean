
/- Walks, printed by program: each function returns what the partial function of the same name returns. Conditions: those of each theorem. -/
import Derived.Test.YtgeceohdppecgaaGT
import Derived.Test.YtgeceohdppecgaaGgen
import Derived.Test.YtgeceohdppecgaaGlaw42exact
import Derived.Test.YtgeceohdppecgaaGlaw42made
import Derived.Test.YtgeceohdppecgaaGlaw42sane
import Derived.Test.YtgeceohdppecgaaGlaw42shift
set_option linter.unusedVariables false
set_option linter.unusedSimpArgs false
set_option maxRecDepth 4000
namespace Go.Proofs.Ytgeceohdppecgaa
open Go Go.V Go.Proofs
def law42_InventoryExact_J46 (p4 : List (Int × Int × Int × Bool)) (x6 : ((List Int) × Int)) (i_s12_l11 : Int) (d23_j30 : List (Int × Int × Int × Bool)) (e8_j46_1 : Int) (d15_j46 : List ((List UInt8) × Int)) (d16_j46 : List Int) (d17_j46 : List (List Int)) : Option (Step (Int × Int) (Unit ⊕ Int)) :=
((gen_Maker_Next x6.1 e8_j46_1 (IntKind.i64.wrap (((d17_j46).length : Int) + 2))).bind fun x77 =>
((gen_Maker_Next x6.1 x77.2 (IntKind.i64.wrap (((d17_j46).length : Int) + 2))).bind fun x79 =>
((gen_Maker_Next x6.1 x79.2 6).bind fun x81 =>
((law42_exact d15_j46 d16_j46 d17_j46 d23_j30 (IntKind.i64.wrap (x77.1 - 1)) (IntKind.i64.wrap (x79.1 - 1)) (IntKind.i64.wrap (x81.1 - 1))).bind fun x83 =>
(if (!x83) = true then
some (.done (.inl ()))
else
(if (decide (((p4).length : Int) < 100)) = true then
((law42_exact d15_j46 d16_j46 d17_j46 p4 0 1 1).bind fun x85 =>
(if (!x85) = true then
some (.done (.inl ()))
else
some (.next (x81.2, IntKind.i64.wrap (i_s12_l11 + 1)))))
else
some (.next (x81.2, IntKind.i64.wrap (i_s12_l11 + 1)))))))))

def law42_InventoryExact_J30 (p4 : List (Int × Int × Int × Bool)) (x6 : ((List Int) × Int)) (i_s12_l11 : Int) (x13 : (List ((List UInt8) × Int)) × (List Int) × (List (List Int)) × Int) (e8_j30_1 : Int) (d23_j30 : List (Int × Int × Int × Bool)) : Option (Step (Int × Int) (Unit ⊕ Int)) :=
(if (i_s12_l11 == 3) = true then
((idx x13.2.2.1 0).bind fun x47 =>
((gen_Maker_Pick x6.1 e8_j30_1 ([(-1), 0, ((x13.2.1).length : Int)])).bind fun x51 =>
(if x47.length + ([x51.1]).length ≤ 4294967296 then
((idx x13.2.2.1 0).bind fun x58 =>
((gen_Maker_Pick x6.1 x51.2 ([0, 1, 400, 401])).bind fun x63 =>
(if x13.2.1.length + ([x63.1]).length ≤ 4294967296 then
((idx x13.1 0).bind fun x68 =>
((gen_Maker_Pick x6.1 x63.2 ([(-1), 100000, 100001, x68.2])).bind fun x72 =>
((idx x13.1 0).bind fun x74 =>
law42_InventoryExact_J46 p4 x6 i_s12_l11 d23_j30 x72.2 (x13.1.set (Int.toNat 0) (x74.1, x72.1)) (x13.2.1 ++ [x63.1]) (x13.2.2.1.set (Int.toNat 0) (x47 ++ [x51.1])))))
else none)))
else none)))
else
law42_InventoryExact_J46 p4 x6 i_s12_l11 d23_j30 e8_j30_1 x13.1 x13.2.1 x13.2.2.1)

def law42_InventoryExact_L21 (x6 : ((List Int) × Int)) (x13 : (List ((List UInt8) × Int)) × (List Int) × (List (List Int)) × Int) (s : Int × (List (Int × Int × Int × Bool)) × Int) : Option (Step (Int × (List (Int × Int × Int × Bool)) × Int) (Int × (List (Int × Int × Int × Bool)))) :=
match s with
| (e8_l21_1, d23_l21, n_s17_l21) =>
(if (decide (n_s17_l21 > 0)) = true then
((law42_shift x6.1 e8_l21_1 x13.2.1 x13.2.2.1).bind fun x25 =>
(if d23_l21.length + ([(x25.1.1, x25.1.2.1, x25.1.2.2.1, x25.1.2.2.2)] : List (Int × Int × Int × Bool)).length ≤ 4294967296 then
some (.next (x25.2, (d23_l21 ++ ([(x25.1.1, x25.1.2.1, x25.1.2.2.1, x25.1.2.2.2)] : List (Int × Int × Int × Bool))), IntKind.i64.wrap (n_s17_l21 - 1)))
else none))
else
some (.done (e8_l21_1, d23_l21)))

def law42_InventoryExact_L92 (p3 : List (List Int)) (s : Int) : Option (Step Int (Bool ⊕ Unit)) :=
match s with
| i_s18_l92 =>
(if (decide (i_s18_l92 < ((p3).length : Int))) = true then
((idx p3 i_s18_l92).bind fun x94 =>
(if (decide (((x94).length : Int) > 300)) = true then
((law42_sane).bind fun x98 =>
some (.done (.inl x98)))
else
some (.next (IntKind.i64.wrap (i_s18_l92 + 1)))))
else
some (.done (.inr ())))

def law42_InventoryExact_J88 (p1 : List ((List UInt8) × Int)) (p2 : List Int) (p3 : List (List Int)) (p4 : List (Int × Int × Int × Bool)) (x6 : ((List Int) × Int)) (e8_x1101_1 : Int) (t146__s146_j88 : Bool) : Option Bool :=
(if t146__s146_j88 = true then
((law42_sane).bind fun x89 =>
some x89)
else
((loop (law42_InventoryExact_L92 p3) 0).bind fun d => match d with
| (.inl t10__s10_x9200) => some t10__s10_x9200
| (.inr _) => ((gen_Maker_Next x6.1 e8_x1101_1 5).bind fun x100 =>
((gen_Maker_Next x6.1 x100.2 5).bind fun x102 =>
((gen_Maker_Next x6.1 x102.2 6).bind fun x104 =>
((law42_exact p1 p2 p3 p4 (IntKind.i64.wrap (x100.1 - 1)) (IntKind.i64.wrap (x102.1 - 1)) (IntKind.i64.wrap (x104.1 - 1))).bind fun x106 =>
(if x106 = true then
((law42_sane).bind fun x108 =>
some x108)
else
some false)))))))

def law42_InventoryExact_L11 (p4 : List (Int × Int × Int × Bool)) (x6 : ((List Int) × Int)) (s : Int × Int) : Option (Step (Int × Int) (Unit ⊕ Int)) :=
match s with
| (e8_l11_1, i_s12_l11) =>
(if (decide (i_s12_l11 < 4)) = true then
((law42_made x6.1 e8_l11_1).bind fun x13 =>
((gen_Maker_Next x6.1 x13.2.2.2 5).bind fun x19 =>
((loop (law42_InventoryExact_L21 x6 x13) (x19.2, ([] : List (Int × Int × Int × Bool)), x19.1)).bind fun d => match d with
| (e8_x21_1, d23_x21) => (if (i_s12_l11 == 2) = true then
((gen_Maker_Pick x6.1 e8_x21_1 ([(-1), 0, ((x13.2.1).length : Int)])).bind fun x33 =>
((gen_Maker_Pick x6.1 x33.2 ([(-2), (-1), ((x13.2.2.1).length : Int)])).bind fun x37 =>
((gen_Maker_Pick x6.1 x37.2 ([(-2), (-1), ((x13.2.2.1).length : Int)])).bind fun x41 =>
(if d23_x21.length + ([(x33.1, x37.1, x41.1, false)] : List (Int × Int × Int × Bool)).length ≤ 4294967296 then
law42_InventoryExact_J30 p4 x6 i_s12_l11 x13 x41.2 (d23_x21 ++ ([(x33.1, x37.1, x41.1, false)] : List (Int × Int × Int × Bool)))
else none))))
else
law42_InventoryExact_J30 p4 x6 i_s12_l11 x13 e8_x21_1 d23_x21))))
else
some (.done (.inr e8_l11_1)))

def law42_InventoryExact (p0 : List Int) (p1 : List ((List UInt8) × Int)) (p2 : List Int) (p3 : List (List Int)) (p4 : List (Int × Int × Int × Bool)) : Option Bool :=
((gen_New p0).bind fun x6 =>
((loop (law42_InventoryExact_L11 p4 x6) (x6.2, 0)).bind fun d => match d with
| (.inl _) => some false
| (.inr e8_x1101_1) => (if (decide (((p1).length : Int) > 40)) = true then
law42_InventoryExact_J88 p1 p2 p3 p4 x6 e8_x1101_1 true
else
(if (decide (((p2).length : Int) > 250)) = true then
law42_InventoryExact_J88 p1 p2 p3 p4 x6 e8_x1101_1 true
else
(if (decide (((p3).length : Int) > 40)) = true then
law42_InventoryExact_J88 p1 p2 p3 p4 x6 e8_x1101_1 true
else
law42_InventoryExact_J88 p1 p2 p3 p4 x6 e8_x1101_1 (decide (((p4).length : Int) > 100)))))))

theorem law42_InventoryExact_w (a_p0 : Option Addr) (c_p0 : Nat) (p0 : List Int) (a_p1 : Option Addr) (c_p1 : Nat) (p1 : List ((List UInt8) × Int)) (a_p2 : Option Addr) (c_p2 : Nat) (p2 : List Int) (a_p3 : Option Addr) (c_p3 : Nat) (p3 : List (List Int)) (a_p4 : Option Addr) (c_p4 : Nat) (p4 : List (Int × Int × Int × Bool)) (r : Bool) (w : World) (M : List Nat) (hms : MS w [M]) (hs_p0 : SlR (eInt .i64) w (fl [M]) a_p0 c_p0 p0) (hs_p1 : SlR (eProd eStr (eInt .i64)) w (fl [M]) a_p1 c_p1 p1) (hs_p2 : SlR (eInt .i64) w (fl [M]) a_p2 c_p2 p2) (hs_p3 : SlR (eSl (eInt .i64)) w (fl [M]) a_p3 c_p3 p3) (hs_p4 : SlR (eProd (eInt .i64) (eProd (eInt .i64) (eProd (eInt .i64) eBool))) w (fl [M]) a_p4 c_p4 p4) (h : law42_InventoryExact p0 p1 p2 p3 p4 = some r) : CallVC Try.prog 4 [.slice a_p0 (p0).length c_p0, .slice a_p1 (p1).length c_p1, .slice a_p2 (p2).length c_p2, .slice a_p3 (p3).length c_p3, .slice a_p4 (p4).length c_p4] w fun v w' => v = .bool r ∧ Ev [] w w' := by
 refine calls_vc hmx Try.func4 (by kernel_rfl) rfl (rs := [.tmp 10]) rfl (by kernel_rfl) (args := [.slice a_p0 (p0).length c_p0, .slice a_p1 (p1).length c_p1, .slice a_p2 (p2).length c_p2, .slice a_p3 (p3).length c_p3, .slice a_p4 (p4).length c_p4]) rfl ?_
 have hev : Ev [] w w := Ev.refl _ _
 have hfr : FR w.heap.size [] := FR.nil _
 refine c_sp ?_
 refine x_u 1 [(10, .bool false)] ?_
 refine x_ek ?_
 refine c_sp ?_
 refine x_u 1 [(19, .slice a_p0 (p0).length c_p0)] ?_
 obtain ⟨x6, hx, h⟩ := bind_some h
 have hpk : MS w ([] ++ [M]) := hms.pick [some 0] _ rfl
 have hsb0 : ∀ x ∈ fl ([] ++ [M]), x ∈ fl [M] := pick_sub [some 0] _ rfl
 have hsb : ∀ x ∈ fl ([] ++ [(fl [M])]), x ∈ fl [M] := fun x hx => hsb0 x (fl_unfold x hx)
 have hcall := gen_New_w a_p0 c_p0 p0 _ w (fl [M]) (MS.fold (P := []) hpk) (hs_p0.sub hsb) hx
 refine x_call 6 #[] #[] [.slice a_p0 (p0).length c_p0] _ rfl rfl rfl rfl hcall ?_
 rintro v w7 ⟨b0_7, a1_7, c1_7, rfl, he7, hmn7, hfn7, hf7_1, hf7_2⟩
 clear hcall hx
 refine inl1 ?_
 have hpk2 : MS w ([] ++ [M]) := hms.pick [some 0] _ rfl
 have hsb2 : ∀ x ∈ fl ([] ++ [M]), x ∈ fl [M] := pick_sub [some 0] _ rfl
 have hst0 := Stp.call (LS := [M]) (res := [[b0_7]]) (par := []) (R := [M]) he7 (fun b hb => hsb2 b (fl_left' (P := []) b hb)) hfn7 (NP.init _ _) (fun x hx => hsb2 x (fl_right' (P := []) x hx))
 have hsn : ∀ x ∈ fl [[b0_7], M], x ∈ fl ([[b0_7]] ++ ([] ++ [M])) := pick_sub [some 0, some 1] _ rfl
 have hst := hst0.res hsn
 replace hs_p0 := hs_p0.step hst
 replace hs_p1 := hs_p1.step hst
 replace hs_p2 := hs_p2.step hst
 replace hs_p3 := hs_p3.step hst
 replace hs_p4 := hs_p4.step hst
 replace hms : MS w7 [[b0_7], M] := (MS.call (P := []) (R := [M]) (res := [[b0_7]]) (par := []) hpk2 he7 hmn7 hfn7 (NP.init _ _)).pick [some 0, some 1] _ rfl
 have hfr2 : FR w.heap.size [[b0_7]] := (FR.cons (fun b hb => Nat.le_trans hev.size (hfn7.at 0 rfl b hb)) (FR.nil _))
 replace hev := hev.ext he7
 replace hfr := hfr2
 clear hfr2
 have hsp : ∀ x ∈ fl [[b0_7], M], x ∈ fl ([[b0_7]] ++ ([] ++ [(fl [M])])) := fun x hx => fl_tot (res := [[b0_7]]) (par := []) (R := [M]) x (hsn x hx)
 replace hf7_2 := hf7_2.sub hsp
 clear hpk hsb hsb0 hpk2 hsb2 hst0 hsn hst
 refine x_u 1 [(11, Vp b0_7 0)] ?_
 refine x_ek ?_
 refine c_seq ?_
 refine c_sp ?_
 refine x_u 1 [(12, Vi 0)] ?_
 refine x_ek ?_
 refine c_block ?_
 obtain ⟨d11, hd11, h11⟩ := bind_some h
 obtain ⟨m11, hd11⟩ := loop_some hd11
 refine c_loop (loop_rule hmx (σ := Nat × Int × Int) (fun s => match s with | (_, e8_l11_1, i_s12_l11) => [(1, .slice a_p1 (p1).length c_p1), (2, .slice a_p2 (p2).length c_p2), (3, .slice a_p3 (p3).length c_p3), (4, .slice a_p4 (p4).length c_p4), (11, Vp b0_7 0), (12, Vi i_s12_l11)]) (fun s w' => match s with | (m, e8_l11_1, i_s12_l11) => loopN (law42_InventoryExact_L11 p4 x6) m (e8_l11_1, i_s12_l11) = some d11 ∧ Ev [] w w' ∧ MS w' [[b0_7], M] ∧ FR w.heap.size [[b0_7]] ∧ SlR (eProd eStr (eInt .i64)) w' (fl [[b0_7], M]) a_p1 c_p1 p1 ∧ SlR (eInt .i64) w' (fl [[b0_7], M]) a_p2 c_p2 p2 ∧ SlR (eSl (eInt .i64)) w' (fl [[b0_7], M]) a_p3 c_p3 p3 ∧ SlR (eProd (eInt .i64) (eProd (eInt .i64) (eProd (eInt .i64) eBool))) w' (fl [[b0_7], M]) a_p4 c_p4 p4 ∧ SlR (eInt .i64) w' (fl [[b0_7], M]) a1_7 c1_7 x6.1 ∧ w'.heap[b0_7]? = some (.cells #[.slice a1_7 (x6.1).length c1_7, Vi e8_l11_1] 52 (0, 0))) (fun s => s.1) (m11, x6.2, 0) ⟨rfl, rfl, rfl, rfl, rfl, rfl, trivial⟩ ⟨hd11, hev, hms, hfr, hs_p1, hs_p2, hs_p3, hs_p4, hf7_2, hf7_1⟩ ?_)
 rintro ⟨m11, e8_l11_1, i_s12_l11⟩ J wl11 ⟨hn11, hev, hms, hfr, hs_p1, hs_p2, hs_p3, hs_p4, hf7_2, hf7_1⟩
 rcases m11 with _ | m11
 · exact (loopN_zero hn11).elim
 obtain ⟨t11, h, hn11⟩ := bind_some hn11
 refine c_seq ?_
 refine c_sp ?_
 refine x_u 2 [(21, Vi i_s12_l11), (22, .bool (decide (i_s12_l11 < 4)))] ?_
 refine x_ek ?_
 refine c_norm [(1, .slice a_p1 (p1).length c_p1), (2, .slice a_p2 (p2).length c_p2), (3, .slice a_p3 (p3).length c_p3), (4, .slice a_p4 (p4).length c_p4), (11, Vp b0_7 0), (12, Vi i_s12_l11), (22, .bool (decide (i_s12_l11 < 4)))] ⟨rfl, rfl, rfl, rfl, rfl, rfl, rfl, trivial⟩ (fun J => ?_)
 refine c_if (decide (i_s12_l11 < 4)) rfl h (fun h => ?_) (fun h => ?_)
 · refine c_skip ?_
   refine k_then ?_
   refine c_seq ?_
   refine c_block ?_
   refine c_sp ?_
   refine x_u 1 [(26, Vp b0_7 0)] ?_
   obtain ⟨x13, hx, h⟩ := bind_some h
   have hpk : MS wl11 ([[b0_7]] ++ [M]) := hms.pick [some 0, some 1] _ rfl
   have hsb0 : ∀ x ∈ fl ([[b0_7]] ++ [M]), x ∈ fl [[b0_7], M] := pick_sub [some 0, some 1] _ rfl
   have hsb : ∀ x ∈ fl ([[b0_7]] ++ [(fl [M])]), x ∈ fl [[b0_7], M] := fun x hx => hsb0 x (fl_unfold x hx)
   have hcall := law42_made_w b0_7 a1_7 c1_7 x6.1 e8_l11_1 _ wl11 (fl [M]) (hpk.fold (P := [[b0_7]])) (hf7_2.sub hsb) hf7_1 hx
   refine x_call 7 #[] #[] [Vp b0_7 0] _ rfl rfl rfl rfl hcall ?_
   rintro v w14 ⟨a0_14, c0_14, a2_14, c2_14, a4_14, c4_14, B6_14, rfl, he14, hp14_0, hmn14, hfn14, hf14_1, hf14_2, hf14_3⟩
   clear hcall hx
   refine inl1 ?_
   have hpk2 : MS wl11 ([[b0_7]] ++ [M]) := hms.pick [some 0, some 1] _ rfl
   have hsb2 : ∀ x ∈ fl ([[b0_7]] ++ [M]), x ∈ fl [[b0_7], M] := pick_sub [some 0, some 1] _ rfl
   have hst0 := Stp.call (LS := [[b0_7], M]) (res := [blk a0_14, blk a2_14, B6_14]) (par := [[b0_7]]) (R := [M]) he14 (fun b hb => hsb2 b (fl_left' (P := [[b0_7]]) b hb)) hfn14 (NP.init _ _) (fun x hx => hsb2 x (fl_right' (P := [[b0_7]]) x hx))
   have hsn : ∀ x ∈ fl [blk a0_14, blk a2_14, B6_14, [b0_7], M], x ∈ fl ([blk a0_14, blk a2_14, B6_14] ++ ([[b0_7]] ++ [M])) := pick_sub [some 0, some 1, some 2, some 3, some 4] _ rfl
   have hst := hst0.res hsn
   replace hs_p1 := hs_p1.step hst
   replace hs_p2 := hs_p2.step hst
   replace hs_p3 := hs_p3.step hst
   replace hs_p4 := hs_p4.step hst
   replace hf7_2 := hf7_2.step hst
   replace hms : MS w14 [blk a0_14, blk a2_14, B6_14, [b0_7], M] := (MS.call (P := [[b0_7]]) (R := [M]) (res := [blk a0_14, blk a2_14, B6_14]) (par := [[b0_7]]) hpk2 he14 hmn14 hfn14 (NP.init _ _)).pick [some 0, some 1, some 2, some 3, some 4] _ rfl
   have hPf : ∀ b ∈ fl [[b0_7]], w.heap.size ≤ b := FR.mem (ls := [[b0_7]]) (hfr.pick [some 0] _ rfl)
   have hfr2 : FR w.heap.size [blk a0_14, blk a2_14, B6_14, [b0_7]] := (FR.cons (fun b hb => Nat.le_trans hev.size (hfn14.at 0 rfl b hb)) (FR.cons (fun b hb => Nat.le_trans hev.size (hfn14.at 1 rfl b hb)) (FR.cons (fun b hb => Nat.le_trans hev.size (hfn14.at 2 rfl b hb)) (FR.cons (hfr.at 0 rfl) (FR.nil _)))))
   replace hev := hev.then he14 (fun b hb => .inr (hPf b hb))
   replace hfr := hfr2
   clear hfr2
   replace hf7_1 := hp14_0
   replace hf14_1 := OwnS.plain (M' := fl [blk a0_14, blk a2_14, B6_14, [b0_7], M]) (plain_prod plain_str (plain_int _)) hf14_1
   replace hf14_2 := OwnS.plain (M' := fl [blk a0_14, blk a2_14, B6_14, [b0_7], M]) (plain_int _) hf14_2
   clear hpk hsb hsb0 hpk2 hsb2 hst0 hsn hst
   refine x_u 7 [(25, .tuple #[.slice a0_14 (x13.1).length c0_14, .slice a2_14 (x13.2.1).length c2_14, .slice a4_14 (x13.2.2.1).length c4_14]), (28, .slice a0_14 (x13.1).length c0_14), (29, .slice a2_14 (x13.2.1).length c2_14), (30, .slice a4_14 (x13.2.2.1).length c4_14), (13, .slice a0_14 (x13.1).length c0_14), (14, .slice a2_14 (x13.2.1).length c2_14), (15, .slice a4_14 (x13.2.2.1).length c4_14)] ?_
   refine x_ek ?_
   refine c_sp ?_
   refine x_u 1 [(16, .slice none 0 0)] ?_
   refine x_ek ?_
   refine c_seq ?_
   refine c_sp ?_
   refine x_u 1 [(31, Vp b0_7 0)] ?_
   obtain ⟨x19, hx, h⟩ := bind_some h
   have hpk : MS w14 ([[b0_7]] ++ [blk a0_14, blk a2_14, B6_14, M]) := hms.pick [some 3, some 0, some 1, some 2, some 4] _ rfl
   have hsb0 : ∀ x ∈ fl ([[b0_7]] ++ [blk a0_14, blk a2_14, B6_14, M]), x ∈ fl [blk a0_14, blk a2_14, B6_14, [b0_7], M] := pick_sub [some 3, some 0, some 1, some 2, some 4] _ rfl
   have hsb : ∀ x ∈ fl ([[b0_7]] ++ [(fl [blk a0_14, blk a2_14, B6_14, M])]), x ∈ fl [blk a0_14, blk a2_14, B6_14, [b0_7], M] := fun x hx => hsb0 x (fl_unfold x hx)
   have hcall := gen_Maker_Next_w b0_7 a1_7 c1_7 x6.1 x13.2.2.2 5 _ w14 (fl [blk a0_14, blk a2_14, B6_14, M]) (hpk.fold (P := [[b0_7]])) (hf7_2.sub hsb) hf7_1 hx
   refine x_call 14 #[] #[] [Vp b0_7 0, Vi 5] _ rfl rfl rfl rfl hcall ?_
   rintro v w20 ⟨rfl, he20, hp20_0⟩
   clear hcall hx
   refine inl1 ?_
   have hpk2 : MS w14 ([[b0_7]] ++ [blk a0_14, blk a2_14, B6_14, M]) := hms.pick [some 3, some 0, some 1, some 2, some 4] _ rfl
   have hsb2 : ∀ x ∈ fl ([[b0_7]] ++ [blk a0_14, blk a2_14, B6_14, M]), x ∈ fl [blk a0_14, blk a2_14, B6_14, [b0_7], M] := pick_sub [some 3, some 0, some 1, some 2, some 4] _ rfl
   have hst0 := Stp.call (LS := [blk a0_14, blk a2_14, B6_14, [b0_7], M]) (res := []) (par := [[b0_7]]) (R := [blk a0_14, blk a2_14, B6_14, M]) he20 (fun b hb => hsb2 b (fl_left' (P := [[b0_7]]) b hb)) (FR.nil _) (NP.init _ _) (fun x hx => hsb2 x (fl_right' (P := [[b0_7]]) x hx))
   have hsn : ∀ x ∈ fl [blk a0_14, blk a2_14, B6_14, [b0_7], M], x ∈ fl ([] ++ ([[b0_7]] ++ [blk a0_14, blk a2_14, B6_14, M])) := pick_sub [some 1, some 2, some 3, some 0, some 4] _ rfl
   have hst := hst0.res hsn
   replace hs_p1 := hs_p1.step hst
   replace hs_p2 := hs_p2.step hst
   replace hs_p3 := hs_p3.step hst
   replace hs_p4 := hs_p4.step hst
   replace hf7_2 := hf7_2.step hst
   replace hf14_1 := hf14_1.step hst he20 (MS.outs (P := [[b0_7]]) hpk2 0 rfl)
   replace hf14_2 := hf14_2.step hst he20 (MS.outs (P := [[b0_7]]) hpk2 1 rfl)
   replace hf14_3 := hf14_3.step (plain_int _) he20 (MS.outs (P := [[b0_7]]) hpk2 2 rfl)
   replace hms := hms.ev he20
   have hPf : ∀ b ∈ fl [[b0_7]], w.heap.size ≤ b := FR.mem (ls := [[b0_7]]) (hfr.pick [some 3] _ rfl)
   replace hev := hev.then he20 (fun b hb => .inr (hPf b hb))
   replace hf7_1 := hp20_0
   clear hpk hsb hsb0 hpk2 hsb2 hst0 hsn hst
   refine x_u 1 [(17, Vi x19.1)] ?_
   refine x_ek ?_
   refine c_norm [(1, .slice a_p1 (p1).length c_p1), (2, .slice a_p2 (p2).length c_p2), (3, .slice a_p3 (p3).length c_p3), (4, .slice a_p4 (p4).length c_p4), (11, Vp b0_7 0), (12, Vi i_s12_l11), (13, .slice a0_14 (x13.1).length c0_14), (14, .slice a2_14 (x13.2.1).length c2_14), (15, .slice a4_14 (x13.2.2.1).length c4_14), (16, .slice none 0 0), (17, Vi x19.1)] ⟨rfl, rfl, rfl, rfl, rfl, rfl, rfl, rfl, rfl, rfl, rfl, trivial⟩ (fun J => ?_)
   refine c_block ?_
   have hst := Stp.push (ls := [blk a0_14, blk a2_14, B6_14, [b0_7], M]) (l := blk none) (Ev.refl [] w20) (fun _ h => by cases h) (fun _ h => by cases h)
   replace hs_p1 := hs_p1.step hst
   replace hs_p2 := hs_p2.step hst
   replace hs_p3 := hs_p3.step hst
   replace hs_p4 := hs_p4.step hst
   replace hf7_1 := (Ev.refl [] _).box hf7_1 nn
   replace hf7_2 := hf7_2.step hst
   replace hf14_1 := hf14_1.step hst (Ev.refl [] _) nn2
   replace hf14_2 := hf14_2.step hst (Ev.refl [] _) nn2
   replace hf14_3 := hf14_3.step (plain_int _) (Ev.refl [] _) nn2
   replace hms := hms.push (l := blk none) (Ev.refl [] _) (fun _ h => by cases h)
   replace hfr := hfr.push (l := blk none) (fun _ h => by cases h)
   have ho22 := OwnS.nil (eProd (eInt .i64) (eProd (eInt .i64) (eProd (eInt .i64) eBool))) 30 w20 (fl [blk none, blk a0_14, blk a2_14, B6_14, [b0_7], M])
   have hpk : MS w20 [[b0_7], blk a0_14, blk a2_14, B6_14, blk none, M] := hms.pick [some 4, some 1, some 2, some 3, some 0, some 5] _ rfl
   have hsu : ∀ x ∈ fl [[b0_7], blk a0_14, blk a2_14, B6_14, blk none, M], x ∈ fl [blk none, blk a0_14, blk a2_14, B6_14, [b0_7], M] := pick_sub [some 4, some 1, some 2, some 3, some 0, some 5] _ rfl
   replace hs_p1 := hs_p1.sub hsu
   replace hs_p2 := hs_p2.sub hsu
   replace hs_p3 := hs_p3.sub hsu
   replace hs_p4 := hs_p4.sub hsu
   replace hf7_2 := hf7_2.sub hsu
   replace hf14_1 := hf14_1.sub hsu
   replace hf14_2 := hf14_2.sub hsu
   replace ho22 := ho22.sub hsu
   replace hms := hpk
   replace hfr : FR w.heap.size [[b0_7], blk a0_14, blk a2_14, B6_14, blk none] := hfr.pick [some 4, some 1, some 2, some 3, some 0] _ rfl
   clear hpk hsu
   obtain ⟨d21, hd21, h21⟩ := bind_some h
   obtain ⟨m21, hd21⟩ := loop_some hd21
   refine c_loop (loop_rule hmx (σ := Nat × Int × (List (Int × Int × Int × Bool)) × Int × Option Addr × Nat) (fun s => match s with | (_, e8_l21_1, d23_l21, n_s17_l21, a23_l21, c23_l21) => [(1, .slice a_p1 (p1).length c_p1), (2, .slice a_p2 (p2).length c_p2), (3, .slice a_p3 (p3).length c_p3), (4, .slice a_p4 (p4).length c_p4), (11, Vp b0_7 0), (12, Vi i_s12_l11), (13, .slice a0_14 (x13.1).length c0_14), (14, .slice a2_14 (x13.2.1).length c2_14), (15, .slice a4_14 (x13.2.2.1).length c4_14), (16, .slice a23_l21 (d23_l21).length c23_l21), (17, Vi n_s17_l21)]) (fun s w' => match s with | (m, e8_l21_1, d23_l21, n_s17_l21, a23_l21, c23_l21) => loopN (law42_InventoryExact_L21 x6 x13) m (e8_l21_1, d23_l21, n_s17_l21) = some d21 ∧ Ev [] w w' ∧ MS w' [[b0_7], blk a0_14, blk a2_14, B6_14, blk a23_l21, M] ∧ FR w.heap.size [[b0_7], blk a0_14, blk a2_14, B6_14, blk a23_l21] ∧ SlR (eProd eStr (eInt .i64)) w' (fl [[b0_7], blk a0_14, blk a2_14, B6_14, blk a23_l21, M]) a_p1 c_p1 p1 ∧ SlR (eInt .i64) w' (fl [[b0_7], blk a0_14, blk a2_14, B6_14, blk a23_l21, M]) a_p2 c_p2 p2 ∧ SlR (eSl (eInt .i64)) w' (fl [[b0_7], blk a0_14, blk a2_14, B6_14, blk a23_l21, M]) a_p3 c_p3 p3 ∧ SlR (eProd (eInt .i64) (eProd (eInt .i64) (eProd (eInt .i64) eBool))) w' (fl [[b0_7], blk a0_14, blk a2_14, B6_14, blk a23_l21, M]) a_p4 c_p4 p4 ∧ SlR (eInt .i64) w' (fl [[b0_7], blk a0_14, blk a2_14, B6_14, blk a23_l21, M]) a1_7 c1_7 x6.1 ∧ w'.heap[b0_7]? = some (.cells #[.slice a1_7 (x6.1).length c1_7, Vi e8_l21_1] 52 (0, 0)) ∧ OwnS (eProd eStr (eInt .i64)) 45 w' (fl [[b0_7], blk a0_14, blk a2_14, B6_14, blk a23_l21, M]) a0_14 c0_14 x13.1 ∧ OwnS (eInt .i64) 3 w' (fl [[b0_7], blk a0_14, blk a2_14, B6_14, blk a23_l21, M]) a2_14 c2_14 x13.2.1 ∧ OwnR (eInt .i64) 3 22 w' B6_14 a4_14 c4_14 x13.2.2.1 none ∧ OwnS (eProd (eInt .i64) (eProd (eInt .i64) (eProd (eInt .i64) eBool))) 30 w' (fl [[b0_7], blk a0_14, blk a2_14, B6_14, blk a23_l21, M]) a23_l21 c23_l21 d23_l21) (fun s => s.1) (m21, x19.2, ([] : List (Int × Int × Int × Bool)), x19.1, none, 0) ⟨rfl, rfl, rfl, rfl, rfl, rfl, rfl, rfl, rfl, rfl, rfl, trivial⟩ ⟨hd21, hev, hms, hfr, hs_p1, hs_p2, hs_p3, hs_p4, hf7_2, hf7_1, hf14_1, hf14_2, hf14_3, ho22⟩ ?_)
   rintro ⟨m21, e8_l21_1, d23_l21, n_s17_l21, a23_l21, c23_l21⟩ J wl21 ⟨hn21, hev, hms, hfr, hs_p1, hs_p2, hs_p3, hs_p4, hf7_2, hf7_1, hf14_1, hf14_2, hf14_3, hj23_l21⟩
   rcases m21 with _ | m21
   · exact (loopN_zero hn21).elim
   obtain ⟨t21, h, hn21⟩ := bind_some hn21
   refine c_seq ?_
   refine c_sp ?_
   refine x_u 2 [(33, Vi n_s17_l21), (34, .bool (decide (n_s17_l21 > 0)))] ?_
   refine x_ek ?_
   refine c_norm [(1, .slice a_p1 (p1).length c_p1), (2, .slice a_p2 (p2).length c_p2), (3, .slice a_p3 (p3).length c_p3), (4, .slice a_p4 (p4).length c_p4), (11, Vp b0_7 0), (12, Vi i_s12_l11), (13, .slice a0_14 (x13.1).length c0_14), (14, .slice a2_14 (x13.2.1).length c2_14), (15, .slice a4_14 (x13.2.2.1).length c4_14), (16, .slice a23_l21 (d23_l21).length c23_l21), (17, Vi n_s17_l21), (34, .bool (decide (n_s17_l21 > 0)))] ⟨rfl, rfl, rfl, rfl, rfl, rfl, rfl, rfl, rfl, rfl, rfl, rfl, trivial⟩ (fun J => ?_)
   refine c_if (decide (n_s17_l21 > 0)) rfl h (fun h => ?_) (fun h => ?_)
   · refine c_skip ?_
     refine k_then ?_
     refine c_seq ?_
     refine c_block ?_
     refine c_plain ?_
     refine x_u 4 [(37, .slice a23_l21 (d23_l21).length c23_l21), (38, Vp b0_7 0), (39, .slice a2_14 (x13.2.1).length c2_14), (40, .slice a4_14 (x13.2.2.1).length c4_14)] ?_
     obtain ⟨x25, hx, h⟩ := bind_some h
     have hpk : MS wl21 ([[b0_7]] ++ [blk a0_14, blk a23_l21, M]) := hms.pick [some 0, some 1, some 4, some 5] _ rfl
     have hsb0 : ∀ x ∈ fl ([[b0_7]] ++ [blk a0_14, blk a23_l21, M]), x ∈ fl [[b0_7], blk a0_14, blk a2_14, B6_14, blk a23_l21, M] := pick_sub [some 0, some 1, some 4, some 5] _ rfl
     have hsb : ∀ x ∈ fl ([[b0_7]] ++ [(fl [blk a0_14, blk a23_l21, M])]), x ∈ fl [[b0_7], blk a0_14, blk a2_14, B6_14, blk a23_l21, M] := fun x hx => hsb0 x (fl_unfold x hx)
     have hcall := law42_shift_w b0_7 a1_7 c1_7 x6.1 e8_l21_1 a2_14 c2_14 x13.2.1 a4_14 c4_14 x13.2.2.1 _ wl21 (fl [blk a0_14, blk a23_l21, M]) (hpk.fold (P := [[b0_7]])) (hf7_2.sub hsb) hf7_1 (hf14_2.ro hsb (fun b hb hb2 => pick_out hms 2 rfl [some 0, some 1, some 4, some 5] ([[b0_7]] ++ [blk a0_14, blk a23_l21, M]) rfl rfl b hb (fl_unfold b hb2))) (OwnR.ro (plain_int _) hf14_3 (fun b hb hb2 => pick_out hms 3 rfl [some 0, some 1, some 4, some 5] ([[b0_7]] ++ [blk a0_14, blk a23_l21, M]) rfl rfl b hb (fl_unfold b hb2))) hx
     refine x_call 8 #[] #[] [Vp b0_7 0, .slice a2_14 (x13.2.1).length c2_14, .slice a4_14 (x13.2.2.1).length c4_14] _ rfl rfl rfl rfl hcall ?_
     rintro v w26 ⟨rfl, he26, hp26_0⟩
     clear hcall hx
     refine inl1 ?_
     have hpk2 : MS wl21 ([[b0_7]] ++ [blk a0_14, blk a2_14, B6_14, blk a23_l21, M]) := hms.pick [some 0, some 1, some 2, some 3, some 4, some 5] _ rfl
     have hsb2 : ∀ x ∈ fl ([[b0_7]] ++ [blk a0_14, blk a2_14, B6_14, blk a23_l21, M]), x ∈ fl [[b0_7], blk a0_14, blk a2_14, B6_14, blk a23_l21, M] := pick_sub [some 0, some 1, some 2, some 3, some 4, some 5] _ rfl
     have hst0 := Stp.call (LS := [[b0_7], blk a0_14, blk a2_14, B6_14, blk a23_l21, M]) (res := []) (par := [[b0_7]]) (R := [blk a0_14, blk a2_14, B6_14, blk a23_l21, M]) he26 (fun b hb => hsb2 b (fl_left' (P := [[b0_7]]) b hb)) (FR.nil _) (NP.init _ _) (fun x hx => hsb2 x (fl_right' (P := [[b0_7]]) x hx))
     have hsn : ∀ x ∈ fl [[b0_7], blk a0_14, blk a2_14, B6_14, blk a23_l21, M], x ∈ fl ([] ++ ([[b0_7]] ++ [blk a0_14, blk a2_14, B6_14, blk a23_l21, M])) := pick_sub [some 0, some 1, some 2, some 3, some 4, some 5] _ rfl
     have hst := hst0.res hsn
     replace hs_p1 := hs_p1.step hst
     replace hs_p2 := hs_p2.step hst
     replace hs_p3 := hs_p3.step hst
     replace hs_p4 := hs_p4.step hst
     replace hf7_2 := hf7_2.step hst
     replace hf14_1 := hf14_1.step hst he26 (MS.outs (P := [[b0_7]]) hpk2 0 rfl)
     replace hf14_2 := hf14_2.step hst he26 (MS.outs (P := [[b0_7]]) hpk2 1 rfl)
     replace hf14_3 := hf14_3.step (plain_int _) he26 (MS.outs (P := [[b0_7]]) hpk2 2 rfl)
     replace hj23_l21 := hj23_l21.step hst he26 (MS.outs (P := [[b0_7]]) hpk2 3 rfl)
     replace hms := hms.ev he26
     have hPf : ∀ b ∈ fl [[b0_7]], w.heap.size ≤ b := FR.mem (ls := [[b0_7]]) (hfr.pick [some 0] _ rfl)
     replace hev := hev.then he26 (fun b hb => .inr (hPf b hb))
     replace hf7_1 := hp26_0
     clear hpk hsb hsb0 hpk2 hsb2 hst0 hsn hst
     refine x_buildSlice (vs := [(0, .agg #[Vi x25.1.1, Vi x25.1.2.1, Vi x25.1.2.2.1, .bool x25.1.2.2.2])]) #[Vi x25.1.1, Vi x25.1.2.1, Vi x25.1.2.2.1, .bool x25.1.2.2.2] 30 rfl rfl rfl (by kernel_rfl) (fun b27 w27 hq27 hb27 he27 hz27 => ?_)
     refine inl1 ?_
     have hms0 := hms
     have hst := Stp.ext (ls := [[b0_7], blk a0_14, blk a2_14, B6_14, blk a23_l21, M]) he27
     replace hs_p1 := hs_p1.step hst
     replace hs_p2 := hs_p2.step hst
     replace hs_p3 := hs_p3.step hst
     replace hs_p4 := hs_p4.step hst
     replace hf7_1 := he27.box hf7_1 nn
     replace hf7_2 := hf7_2.step hst
     replace hf14_1 := hf14_1.step hst he27 nn2
     replace hf14_2 := hf14_2.step hst he27 nn2
     replace hf14_3 := hf14_3.step (plain_int _) he27 nn2
     replace hj23_l21 := hj23_l21.step hst he27 nn2
     replace hms := hms.ev he27
     replace hev := hev.ext he27
     have hs27 : SlR (eProd (eInt .i64) (eProd (eInt .i64) (eProd (eInt .i64) eBool))) w27 (fl [[b0_7], blk a0_14, blk a2_14, B6_14, blk a23_l21, M]) (Ad b27 0) 1 ([(x25.1.1, x25.1.2.1, x25.1.2.2.1, x25.1.2.2.2)] : List (Int × Int × Int × Bool)) := ro_of_box hms0 hq27 hb27 rfl rfl (cells_at (cs := [Vi x25.1.1, Vi x25.1.2.1, Vi x25.1.2.2.1, .bool x25.1.2.2.2]) (CellsOf.cons (c := [Vi x25.1.1, Vi x25.1.2.1, Vi x25.1.2.2.1, .bool x25.1.2.2.2]) ⟨[Vi x25.1.1], [Vi x25.1.2.1, Vi x25.1.2.2.1, .bool x25.1.2.2.2], rfl, rfl, ⟨[Vi x25.1.2.1], [Vi x25.1.2.2.1, .bool x25.1.2.2.2], rfl, rfl, ⟨[Vi x25.1.2.2.1], [.bool x25.1.2.2.2], rfl, rfl, rfl⟩⟩⟩ CellsOf.nil))
     clear hb27 hms0
     have hg := guard_l h
     replace h := guard_r h
     obtain ⟨a29, c29, w29, hr29, he29, hn29, hm29, hw29⟩ := own_appendN tel41 41 hj23_l21 (mem_flat 4 rfl) hs27 hg
     refine x_builtin (vs := [.slice a23_l21 (d23_l21).length c23_l21, .slice (Ad b27 0) (([(x25.1.1, x25.1.2.1, x25.1.2.2.1, x25.1.2.2.2)] : List (Int × Int × Int × Bool))).length 1]) _ w29 rfl rfl rfl rfl (run_value _ _ _ _ hr29) ?_
     refine inl1 ?_
     have hst : Stp (fl [[b0_7], blk a0_14, blk a2_14, B6_14, blk a23_l21, M]) w27 (fl [[b0_7], blk a0_14, blk a2_14, B6_14, blk a29, M]) w29 := Stp.upd 4 he29 rfl (fun b hb => (hn29 b hb).1)
     replace hs_p1 := hs_p1.step hst
     replace hs_p2 := hs_p2.step hst
     replace hs_p3 := hs_p3.step hst
     replace hs_p4 := hs_p4.step hst
     replace hf7_1 := he29.box hf7_1 (hms.apart 0 4 rfl rfl rfl _ mem1)
     replace hf7_2 := hf7_2.step hst
     replace hf14_1 := hf14_1.step hst he29 (hms.apart 1 4 rfl rfl rfl)
     replace hf14_2 := hf14_2.step hst he29 (hms.apart 2 4 rfl rfl rfl)
     replace hf14_3 := hf14_3.step (plain_int _) he29 (hms.apart 3 4 rfl rfl rfl)
     replace hs27 := hs27.step hst
     replace hms : MS w29 [[b0_7], blk a0_14, blk a2_14, B6_14, blk a29, M] := hms.upd 4 he29 rfl hn29
     have hfr2 : FR w.heap.size [[b0_7], blk a0_14, blk a2_14, B6_14, blk a29] := hfr.upd 4 rfl hev.size (fun b hb => (hn29 b hb).1)
     replace hev := hev.then he29 (fun b hb => .inr (hfr.at 4 rfl b hb))
     replace hfr := hfr2
     clear hfr2
     replace hj23_l21 := hw29 (fl [[b0_7], blk a0_14, blk a2_14, B6_14, blk a29, M]) hst.new
     clear hw29
     refine x_u 1 [(16, .slice a29 ((d23_l21 ++ ([(x25.1.1, x25.1.2.1, x25.1.2.2.1, x25.1.2.2.2)] : List (Int × Int × Int × Bool)))).length c29)] ?_
     refine x_end rfl ?_
     refine k_block ?_
     refine k_then ?_
     refine c_plain ?_
     refine x_u 3 [(35, Vi n_s17_l21), (36, Vi (IntKind.i64.wrap (n_s17_l21 - 1))), (17, Vi (IntKind.i64.wrap (n_s17_l21 - 1)))] ?_
     refine x_end rfl ?_
     have hx := some_inj h
     subst hx
     exact k_then ⟨(m21, x25.2, (d23_l21 ++ ([(x25.1.1, x25.1.2.1, x25.1.2.2.1, x25.1.2.2.2)] : List (Int × Int × Int × Bool))), IntKind.i64.wrap (n_s17_l21 - 1), a29, c29), ⟨rfl, rfl, rfl, rfl, rfl, rfl, rfl, rfl, rfl, rfl, rfl, trivial⟩, ⟨hn21, hev, hms, hfr, hs_p1, hs_p2, hs_p3, hs_p4, hf7_2, hf7_1, hf14_1, hf14_2, hf14_3, hj23_l21⟩, Nat.lt_succ_self _⟩
   refine c_exit ?_
   refine k_then_exit ?_
   have hx := some_inj h
   subst hx
   have hy := some_inj hn21
   subst hy
   replace h := h21
   refine k_then_exit ?_
   refine k_block_in ?_
   refine k_then ?_
   refine c_norm [(1, .slice a_p1 (p1).length c_p1), (2, .slice a_p2 (p2).length c_p2), (3, .slice a_p3 (p3).length c_p3), (4, .slice a_p4 (p4).length c_p4), (11, Vp b0_7 0), (12, Vi i_s12_l11), (13, .slice a0_14 (x13.1).length c0_14), (14, .slice a2_14 (x13.2.1).length c2_14), (15, .slice a4_14 (x13.2.2.1).length c4_14), (16, .slice a23_l21 (d23_l21).length c23_l21)] ⟨rfl, rfl, rfl, rfl, rfl, rfl, rfl, rfl, rfl, rfl, trivial⟩ (fun J => ?_)
   refine c_join (σ := Int × (List (Int × Int × Int × Bool)) × Option Addr × Nat) (fun s => match s with | (e8_j30_1, d23_j30, a23_j30, c23_j30) => [(1, .slice a_p1 (p1).length c_p1), (2, .slice a_p2 (p2).length c_p2), (3, .slice a_p3 (p3).length c_p3), (4, .slice a_p4 (p4).length c_p4), (11, Vp b0_7 0), (12, Vi i_s12_l11), (13, .slice a0_14 (x13.1).length c0_14), (14, .slice a2_14 (x13.2.1).length c2_14), (15, .slice a4_14 (x13.2.2.1).length c4_14), (16, .slice a23_j30 (d23_j30).length c23_j30)]) (fun s w' => match s with | (e8_j30_1, d23_j30, a23_j30, c23_j30) => law42_InventoryExact_J30 p4 x6 i_s12_l11 x13 e8_j30_1 d23_j30 = some t11 ∧ Ev [] w w' ∧ MS w' [[b0_7], blk a0_14, blk a2_14, B6_14, blk a23_j30, M] ∧ FR w.heap.size [[b0_7], blk a0_14, blk a2_14, B6_14, blk a23_j30] ∧ SlR (eProd eStr (eInt .i64)) w' (fl [[b0_7], blk a0_14, blk a2_14, B6_14, blk a23_j30, M]) a_p1 c_p1 p1 ∧ SlR (eInt .i64) w' (fl [[b0_7], blk a0_14, blk a2_14, B6_14, blk a23_j30, M]) a_p2 c_p2 p2 ∧ SlR (eSl (eInt .i64)) w' (fl [[b0_7], blk a0_14, blk a2_14, B6_14, blk a23_j30, M]) a_p3 c_p3 p3 ∧ SlR (eProd (eInt .i64) (eProd (eInt .i64) (eProd (eInt .i64) eBool))) w' (fl [[b0_7], blk a0_14, blk a2_14, B6_14, blk a23_j30, M]) a_p4 c_p4 p4 ∧ SlR (eInt .i64) w' (fl [[b0_7], blk a0_14, blk a2_14, B6_14, blk a23_j30, M]) a1_7 c1_7 x6.1 ∧ w'.heap[b0_7]? = some (.cells #[.slice a1_7 (x6.1).length c1_7, Vi e8_j30_1] 52 (0, 0)) ∧ OwnS (eProd eStr (eInt .i64)) 45 w' (fl [[b0_7], blk a0_14, blk a2_14, B6_14, blk a23_j30, M]) a0_14 c0_14 x13.1 ∧ OwnS (eInt .i64) 3 w' (fl [[b0_7], blk a0_14, blk a2_14, B6_14, blk a23_j30, M]) a2_14 c2_14 x13.2.1 ∧ OwnR (eInt .i64) 3 22 w' B6_14 a4_14 c4_14 x13.2.2.1 none ∧ OwnS (eProd (eInt .i64) (eProd (eInt .i64) (eProd (eInt .i64) eBool))) 30 w' (fl [[b0_7], blk a0_14, blk a2_14, B6_14, blk a23_j30, M]) a23_j30 c23_j30 d23_j30) ?_ ?_
   · refine c_sp ?_
     refine x_u 2 [(44, Vi i_s12_l11), (45, .bool (i_s12_l11 == 2))] ?_
     refine x_ek ?_
     refine c_if (i_s12_l11 == 2) rfl h (fun h => ?_) (fun h => ?_)
     · refine c_plain ?_
       refine x_u 3 [(46, .slice a23_l21 (d23_l21).length c23_l21), (47, Vp b0_7 0), (48, .slice a2_14 (x13.2.1).length c2_14)] ?_
       refine x_len (vs := [.slice a2_14 (x13.2.1).length c2_14]) (Vi ((x13.2.1).length : Int)) rfl rfl rfl (reads_len tsl22 _ _ _ _ _) ?_
       refine x_buildSlice (vs := [(0, Vi (-1)), (1, Vi 0), (2, Vi ((x13.2.1).length : Int))]) #[Vi (-1), Vi 0, Vi ((x13.2.1).length : Int)] 3 rfl rfl rfl (by kernel_rfl) (fun b31 w31 hq31 hb31 he31 hz31 => ?_)
       refine inl1 ?_
       have hms0 := hms
       have hst := Stp.ext (ls := [[b0_7], blk a0_14, blk a2_14, B6_14, blk a23_l21, M]) he31
       replace hs_p1 := hs_p1.step hst
       replace hs_p2 := hs_p2.step hst
       replace hs_p3 := hs_p3.step hst
       replace hs_p4 := hs_p4.step hst
       replace hf7_1 := he31.box hf7_1 nn
       replace hf7_2 := hf7_2.step hst
       replace hf14_1 := hf14_1.step hst he31 nn2
       replace hf14_2 := hf14_2.step hst he31 nn2
       replace hf14_3 := hf14_3.step (plain_int _) he31 nn2
       replace hj23_l21 := hj23_l21.step hst he31 nn2
       replace hms := hms.ev he31
       replace hev := hev.ext he31
       have hs31 : SlR (eInt .i64) w31 (fl [[b0_7], blk a0_14, blk a2_14, B6_14, blk a23_l21, M]) (Ad b31 0) 3 ([(-1), 0, ((x13.2.1).length : Int)]) := ro_of_box hms0 hq31 hb31 rfl rfl (cells_at (cs := [Vi (-1), Vi 0, Vi ((x13.2.1).length : Int)]) (CellsOf.cons (c := [Vi (-1)]) rfl (CellsOf.cons (c := [Vi 0]) rfl (CellsOf.cons (c := [Vi ((x13.2.1).length : Int)]) rfl CellsOf.nil))))
       clear hb31 hms0
       obtain ⟨x33, hx, h⟩ := bind_some h
       have hpk : MS w31 ([[b0_7]] ++ [blk a0_14, blk a2_14, B6_14, blk a23_l21, M]) := hms.pick [some 0, some 1, some 2, some 3, some 4, some 5] _ rfl
       have hsb0 : ∀ x ∈ fl ([[b0_7]] ++ [blk a0_14, blk a2_14, B6_14, blk a23_l21, M]), x ∈ fl [[b0_7], blk a0_14, blk a2_14, B6_14, blk a23_l21, M] := pick_sub [some 0, some 1, some 2, some 3, some 4, some 5] _ rfl
       have hsb : ∀ x ∈ fl ([[b0_7]] ++ [(fl [blk a0_14, blk a2_14, B6_14, blk a23_l21, M])]), x ∈ fl [[b0_7], blk a0_14, blk a2_14, B6_14, blk a23_l21, M] := fun x hx => hsb0 x (fl_unfold x hx)
       have hcall := gen_Maker_Pick_w b0_7 a1_7 c1_7 x6.1 e8_l21_1 (Ad b31 0) 3 ([(-1), 0, ((x13.2.1).length : Int)]) _ w31 (fl [blk a0_14, blk a2_14, B6_14, blk a23_l21, M]) (hpk.fold (P := [[b0_7]])) (hf7_2.sub hsb) hf7_1 (hs31.sub hsb) hx
       refine x_call 15 #[] #[] [Vp b0_7 0, .slice (Ad b31 0) ([(-1), 0, ((x13.2.1).length : Int)]).length 3] _ rfl rfl rfl rfl hcall ?_
       rintro v w34 ⟨rfl, he34, hp34_0⟩
       clear hcall hx
       refine inl1 ?_
       have hpk2 : MS w31 ([[b0_7]] ++ [blk a0_14, blk a2_14, B6_14, blk a23_l21, M]) := hms.pick [some 0, some 1, some 2, some 3, some 4, some 5] _ rfl
       have hsb2 : ∀ x ∈ fl ([[b0_7]] ++ [blk a0_14, blk a2_14, B6_14, blk a23_l21, M]), x ∈ fl [[b0_7], blk a0_14, blk a2_14, B6_14, blk a23_l21, M] := pick_sub [some 0, some 1, some 2, some 3, some 4, some 5] _ rfl
       have hst0 := Stp.call (LS := [[b0_7], blk a0_14, blk a2_14, B6_14, blk a23_l21, M]) (res := []) (par := [[b0_7]]) (R := [blk a0_14, blk a2_14, B6_14, blk a23_l21, M]) he34 (fun b hb => hsb2 b (fl_left' (P := [[b0_7]]) b hb)) (FR.nil _) (NP.init _ _) (fun x hx => hsb2 x (fl_right' (P := [[b0_7]]) x hx))
       have hsn : ∀ x ∈ fl [[b0_7], blk a0_14, blk a2_14, B6_14, blk a23_l21, M], x ∈ fl ([] ++ ([[b0_7]] ++ [blk a0_14, blk a2_14, B6_14, blk a23_l21, M])) := pick_sub [some 0, some 1, some 2, some 3, some 4, some 5] _ rfl
       have hst := hst0.res hsn
       replace hs_p1 := hs_p1.step hst
       replace hs_p2 := hs_p2.step hst
       replace hs_p3 := hs_p3.step hst
       replace hs_p4 := hs_p4.step hst
       replace hf7_2 := hf7_2.step hst
       replace hf14_1 := hf14_1.step hst he34 (MS.outs (P := [[b0_7]]) hpk2 0 rfl)
       replace hf14_2 := hf14_2.step hst he34 (MS.outs (P := [[b0_7]]) hpk2 1 rfl)
       replace hf14_3 := hf14_3.step (plain_int _) he34 (MS.outs (P := [[b0_7]]) hpk2 2 rfl)
       replace hj23_l21 := hj23_l21.step hst he34 (MS.outs (P := [[b0_7]]) hpk2 3 rfl)
       replace hs31 := hs31.step hst
       replace hms := hms.ev he34
       have hPf : ∀ b ∈ fl [[b0_7]], w.heap.size ≤ b := FR.mem (ls := [[b0_7]]) (hfr.pick [some 0] _ rfl)
       replace hev := hev.then he34 (fun b hb => .inr (hPf b hb))
       replace hf7_1 := hp34_0
       clear hpk hsb hsb0 hpk2 hsb2 hst0 hsn hst
       refine x_u 2 [(52, Vp b0_7 0), (53, .slice a4_14 (x13.2.2.1).length c4_14)] ?_
       refine x_len (vs := [.slice a4_14 (x13.2.2.1).length c4_14]) (Vi ((x13.2.2.1).length : Int)) rfl rfl rfl (reads_len tsl26 _ _ _ _ _) ?_
       refine x_buildSlice (vs := [(0, Vi (-2)), (1, Vi (-1)), (2, Vi ((x13.2.2.1).length : Int))]) #[Vi (-2), Vi (-1), Vi ((x13.2.2.1).length : Int)] 3 rfl rfl rfl (by kernel_rfl) (fun b35 w35 hq35 hb35 he35 hz35 => ?_)
       refine inl1 ?_
       have hms0 := hms
       have hst := Stp.ext (ls := [[b0_7], blk a0_14, blk a2_14, B6_14, blk a23_l21, M]) he35
       replace hs_p1 := hs_p1.step hst
       replace hs_p2 := hs_p2.step hst
       replace hs_p3 := hs_p3.step hst
       replace hs_p4 := hs_p4.step hst
       replace hf7_1 := he35.box hf7_1 nn
       replace hf7_2 := hf7_2.step hst
       replace hf14_1 := hf14_1.step hst he35 nn2
       replace hf14_2 := hf14_2.step hst he35 nn2
       replace hf14_3 := hf14_3.step (plain_int _) he35 nn2
       replace hj23_l21 := hj23_l21.step hst he35 nn2
       replace hs31 := hs31.step hst
       replace hms := hms.ev he35
       replace hev := hev.ext he35
       have hs35 : SlR (eInt .i64) w35 (fl [[b0_7], blk a0_14, blk a2_14, B6_14, blk a23_l21, M]) (Ad b35 0) 3 ([(-2), (-1), ((x13.2.2.1).length : Int)]) := ro_of_box hms0 hq35 hb35 rfl rfl (cells_at (cs := [Vi (-2), Vi (-1), Vi ((x13.2.2.1).length : Int)]) (CellsOf.cons (c := [Vi (-2)]) rfl (CellsOf.cons (c := [Vi (-1)]) rfl (CellsOf.cons (c := [Vi ((x13.2.2.1).length : Int)]) rfl CellsOf.nil))))
       clear hb35 hms0
       obtain ⟨x37, hx, h⟩ := bind_some h
       have hpk : MS w35 ([[b0_7]] ++ [blk a0_14, blk a2_14, B6_14, blk a23_l21, M]) := hms.pick [some 0, some 1, some 2, some 3, some 4, some 5] _ rfl
       have hsb0 : ∀ x ∈ fl ([[b0_7]] ++ [blk a0_14, blk a2_14, B6_14, blk a23_l21, M]), x ∈ fl [[b0_7], blk a0_14, blk a2_14, B6_14, blk a23_l21, M] := pick_sub [some 0, some 1, some 2, some 3, some 4, some 5] _ rfl
       have hsb : ∀ x ∈ fl ([[b0_7]] ++ [(fl [blk a0_14, blk a2_14, B6_14, blk a23_l21, M])]), x ∈ fl [[b0_7], blk a0_14, blk a2_14, B6_14, blk a23_l21, M] := fun x hx => hsb0 x (fl_unfold x hx)
       have hcall := gen_Maker_Pick_w b0_7 a1_7 c1_7 x6.1 x33.2 (Ad b35 0) 3 ([(-2), (-1), ((x13.2.2.1).length : Int)]) _ w35 (fl [blk a0_14, blk a2_14, B6_14, blk a23_l21, M]) (hpk.fold (P := [[b0_7]])) (hf7_2.sub hsb) hf7_1 (hs35.sub hsb) hx
       refine x_call 15 #[] #[] [Vp b0_7 0, .slice (Ad b35 0) ([(-2), (-1), ((x13.2.2.1).length : Int)]).length 3] _ rfl rfl rfl rfl hcall ?_
       rintro v w38 ⟨rfl, he38, hp38_0⟩
       clear hcall hx
       refine inl1 ?_
       have hpk2 : MS w35 ([[b0_7]] ++ [blk a0_14, blk a2_14, B6_14, blk a23_l21, M]) := hms.pick [some 0, some 1, some 2, some 3, some 4, some 5] _ rfl
       have hsb2 : ∀ x ∈ fl ([[b0_7]] ++ [blk a0_14, blk a2_14, B6_14, blk a23_l21, M]), x ∈ fl [[b0_7], blk a0_14, blk a2_14, B6_14, blk a23_l21, M] := pick_sub [some 0, some 1, some 2, some 3, some 4, some 5] _ rfl
       have hst0 := Stp.call (LS := [[b0_7], blk a0_14, blk a2_14, B6_14, blk a23_l21, M]) (res := []) (par := [[b0_7]]) (R := [blk a0_14, blk a2_14, B6_14, blk a23_l21, M]) he38 (fun b hb => hsb2 b (fl_left' (P := [[b0_7]]) b hb)) (FR.nil _) (NP.init _ _) (fun x hx => hsb2 x (fl_right' (P := [[b0_7]]) x hx))
       have hsn : ∀ x ∈ fl [[b0_7], blk a0_14, blk a2_14, B6_14, blk a23_l21, M], x ∈ fl ([] ++ ([[b0_7]] ++ [blk a0_14, blk a2_14, B6_14, blk a23_l21, M])) := pick_sub [some 0, some 1, some 2, some 3, some 4, some 5] _ rfl
       have hst := hst0.res hsn
       replace hs_p1 := hs_p1.step hst
       replace hs_p2 := hs_p2.step hst
       replace hs_p3 := hs_p3.step hst
       replace hs_p4 := hs_p4.step hst
       replace hf7_2 := hf7_2.step hst
       replace hf14_1 := hf14_1.step hst he38 (MS.outs (P := [[b0_7]]) hpk2 0 rfl)
       replace hf14_2 := hf14_2.step hst he38 (MS.outs (P := [[b0_7]]) hpk2 1 rfl)
       replace hf14_3 := hf14_3.step (plain_int _) he38 (MS.outs (P := [[b0_7]]) hpk2 2 rfl)
       replace hj23_l21 := hj23_l21.step hst he38 (MS.outs (P := [[b0_7]]) hpk2 3 rfl)
       replace hs31 := hs31.step hst
       replace hs35 := hs35.step hst
       replace hms := hms.ev he38
       have hPf : ∀ b ∈ fl [[b0_7]], w.heap.size ≤ b := FR.mem (ls := [[b0_7]]) (hfr.pick [some 0] _ rfl)
       replace hev := hev.then he38 (fun b hb => .inr (hPf b hb))
       replace hf7_1 := hp38_0
       clear hpk hsb hsb0 hpk2 hsb2 hst0 hsn hst
       refine x_u 2 [(57, Vp b0_7 0), (58, .slice a4_14 (x13.2.2.1).length c4_14)] ?_
       refine x_len (vs := [.slice a4_14 (x13.2.2.1).length c4_14]) (Vi ((x13.2.2.1).length : Int)) rfl rfl rfl (reads_len tsl26 _ _ _ _ _) ?_
       refine x_buildSlice (vs := [(0, Vi (-2)), (1, Vi (-1)), (2, Vi ((x13.2.2.1).length : Int))]) #[Vi (-2), Vi (-1), Vi ((x13.2.2.1).length : Int)] 3 rfl rfl rfl (by kernel_rfl) (fun b39 w39 hq39 hb39 he39 hz39 => ?_)
       refine inl1 ?_
       have hms0 := hms
       have hst := Stp.ext (ls := [[b0_7], blk a0_14, blk a2_14, B6_14, blk a23_l21, M]) he39
       replace hs_p1 := hs_p1.step hst
       replace hs_p2 := hs_p2.step hst
       replace hs_p3 := hs_p3.step hst
       replace hs_p4 := hs_p4.step hst
       replace hf7_1 := he39.box hf7_1 nn
       replace hf7_2 := hf7_2.step hst
       replace hf14_1 := hf14_1.step hst he39 nn2
       replace hf14_2 := hf14_2.step hst he39 nn2
       replace hf14_3 := hf14_3.step (plain_int _) he39 nn2
       replace hj23_l21 := hj23_l21.step hst he39 nn2
       replace hs31 := hs31.step hst
       replace hs35 := hs35.step hst
       replace hms := hms.ev he39
       replace hev := hev.ext he39
       have hs39 : SlR (eInt .i64) w39 (fl [[b0_7], blk a0_14, blk a2_14, B6_14, blk a23_l21, M]) (Ad b39 0) 3 ([(-2), (-1), ((x13.2.2.1).length : Int)]) := ro_of_box hms0 hq39 hb39 rfl rfl (cells_at (cs := [Vi (-2), Vi (-1), Vi ((x13.2.2.1).length : Int)]) (CellsOf.cons (c := [Vi (-2)]) rfl (CellsOf.cons (c := [Vi (-1)]) rfl (CellsOf.cons (c := [Vi ((x13.2.2.1).length : Int)]) rfl CellsOf.nil))))
       clear hb39 hms0
       obtain ⟨x41, hx, h⟩ := bind_some h
       have hpk : MS w39 ([[b0_7]] ++ [blk a0_14, blk a2_14, B6_14, blk a23_l21, M]) := hms.pick [some 0, some 1, some 2, some 3, some 4, some 5] _ rfl
       have hsb0 : ∀ x ∈ fl ([[b0_7]] ++ [blk a0_14, blk a2_14, B6_14, blk a23_l21, M]), x ∈ fl [[b0_7], blk a0_14, blk a2_14, B6_14, blk a23_l21, M] := pick_sub [some 0, some 1, some 2, some 3, some 4, some 5] _ rfl
       have hsb : ∀ x ∈ fl ([[b0_7]] ++ [(fl [blk a0_14, blk a2_14, B6_14, blk a23_l21, M])]), x ∈ fl [[b0_7], blk a0_14, blk a2_14, B6_14, blk a23_l21, M] := fun x hx => hsb0 x (fl_unfold x hx)
       have hcall := gen_Maker_Pick_w b0_7 a1_7 c1_7 x6.1 x37.2 (Ad b39 0) 3 ([(-2), (-1), ((x13.2.2.1).length : Int)]) _ w39 (fl [blk a0_14, blk a2_14, B6_14, blk a23_l21, M]) (hpk.fold (P := [[b0_7]])) (hf7_2.sub hsb) hf7_1 (hs39.sub hsb) hx
       refine x_call 15 #[] #[] [Vp b0_7 0, .slice (Ad b39 0) ([(-2), (-1), ((x13.2.2.1).length : Int)]).length 3] _ rfl rfl rfl rfl hcall ?_
       rintro v w42 ⟨rfl, he42, hp42_0⟩
       clear hcall hx
       refine inl1 ?_
       have hpk2 : MS w39 ([[b0_7]] ++ [blk a0_14, blk a2_14, B6_14, blk a23_l21, M]) := hms.pick [some 0, some 1, some 2, some 3, some 4, some 5] _ rfl
       have hsb2 : ∀ x ∈ fl ([[b0_7]] ++ [blk a0_14, blk a2_14, B6_14, blk a23_l21, M]), x ∈ fl [[b0_7], blk a0_14, blk a2_14, B6_14, blk a23_l21, M] := pick_sub [some 0, some 1, some 2, some 3, some 4, some 5] _ rfl
       have hst0 := Stp.call (LS := [[b0_7], blk a0_14, blk a2_14, B6_14, blk a23_l21, M]) (res := []) (par := [[b0_7]]) (R := [blk a0_14, blk a2_14, B6_14, blk a23_l21, M]) he42 (fun b hb => hsb2 b (fl_left' (P := [[b0_7]]) b hb)) (FR.nil _) (NP.init _ _) (fun x hx => hsb2 x (fl_right' (P := [[b0_7]]) x hx))
       have hsn : ∀ x ∈ fl [[b0_7], blk a0_14, blk a2_14, B6_14, blk a23_l21, M], x ∈ fl ([] ++ ([[b0_7]] ++ [blk a0_14, blk a2_14, B6_14, blk a23_l21, M])) := pick_sub [some 0, some 1, some 2, some 3, some 4, some 5] _ rfl
       have hst := hst0.res hsn
       replace hs_p1 := hs_p1.step hst
       replace hs_p2 := hs_p2.step hst
       replace hs_p3 := hs_p3.step hst
       replace hs_p4 := hs_p4.step hst
       replace hf7_2 := hf7_2.step hst
       replace hf14_1 := hf14_1.step hst he42 (MS.outs (P := [[b0_7]]) hpk2 0 rfl)
       replace hf14_2 := hf14_2.step hst he42 (MS.outs (P := [[b0_7]]) hpk2 1 rfl)
       replace hf14_3 := hf14_3.step (plain_int _) he42 (MS.outs (P := [[b0_7]]) hpk2 2 rfl)
       replace hj23_l21 := hj23_l21.step hst he42 (MS.outs (P := [[b0_7]]) hpk2 3 rfl)
       replace hs31 := hs31.step hst
       replace hs35 := hs35.step hst
       replace hs39 := hs39.step hst
       replace hms := hms.ev he42
       have hPf : ∀ b ∈ fl [[b0_7]], w.heap.size ≤ b := FR.mem (ls := [[b0_7]]) (hfr.pick [some 0] _ rfl)
       replace hev := hev.then he42 (fun b hb => .inr (hPf b hb))
       replace hf7_1 := hp42_0
       clear hpk hsb hsb0 hpk2 hsb2 hst0 hsn hst
       refine x_build (vs := [(0, Vi x33.1), (1, Vi x37.1), (2, Vi x41.1)]) (.agg #[Vi x33.1, Vi x37.1, Vi x41.1, .bool false]) rfl rfl rfl (fun _ _ => by kernel_rfl) ?_
       refine x_buildSlice (vs := [(0, .agg #[Vi x33.1, Vi x37.1, Vi x41.1, .bool false])]) #[Vi x33.1, Vi x37.1, Vi x41.1, .bool false] 30 rfl rfl rfl (by kernel_rfl) (fun b43 w43 hq43 hb43 he43 hz43 => ?_)
       refine inl1 ?_
       have hms0 := hms
       have hst := Stp.ext (ls := [[b0_7], blk a0_14, blk a2_14, B6_14, blk a23_l21, M]) he43
       replace hs_p1 := hs_p1.step hst
       replace hs_p2 := hs_p2.step hst
       replace hs_p3 := hs_p3.step hst
       replace hs_p4 := hs_p4.step hst
       replace hf7_1 := he43.box hf7_1 nn
       replace hf7_2 := hf7_2.step hst
       replace hf14_1 := hf14_1.step hst he43 nn2
       replace hf14_2 := hf14_2.step hst he43 nn2
       replace hf14_3 := hf14_3.step (plain_int _) he43 nn2
       replace hj23_l21 := hj23_l21.step hst he43 nn2
       replace hs31 := hs31.step hst
       replace hs35 := hs35.step hst
       replace hs39 := hs39.step hst
       replace hms := hms.ev he43
       replace hev := hev.ext he43
       have hs43 : SlR (eProd (eInt .i64) (eProd (eInt .i64) (eProd (eInt .i64) eBool))) w43 (fl [[b0_7], blk a0_14, blk a2_14, B6_14, blk a23_l21, M]) (Ad b43 0) 1 ([(x33.1, x37.1, x41.1, false)] : List (Int × Int × Int × Bool)) := ro_of_box hms0 hq43 hb43 rfl rfl (cells_at (cs := [Vi x33.1, Vi x37.1, Vi x41.1, .bool false]) (CellsOf.cons (c := [Vi x33.1, Vi x37.1, Vi x41.1, .bool false]) ⟨[Vi x33.1], [Vi x37.1, Vi x41.1, .bool false], rfl, rfl, ⟨[Vi x37.1], [Vi x41.1, .bool false], rfl, rfl, ⟨[Vi x41.1], [.bool false], rfl, rfl, rfl⟩⟩⟩ CellsOf.nil))
       clear hb43 hms0
       have hg := guard_l h
       replace h := guard_r h
       obtain ⟨a45, c45, w45, hr45, he45, hn45, hm45, hw45⟩ := own_appendN tel41 41 hj23_l21 (mem_flat 4 rfl) hs43 hg
       refine x_builtin (vs := [.slice a23_l21 (d23_l21).length c23_l21, .slice (Ad b43 0) (([(x33.1, x37.1, x41.1, false)] : List (Int × Int × Int × Bool))).length 1]) _ w45 rfl rfl rfl rfl (run_value _ _ _ _ hr45) ?_
       refine inl1 ?_
       have hst : Stp (fl [[b0_7], blk a0_14, blk a2_14, B6_14, blk a23_l21, M]) w43 (fl [[b0_7], blk a0_14, blk a2_14, B6_14, blk a45, M]) w45 := Stp.upd 4 he45 rfl (fun b hb => (hn45 b hb).1)
       replace hs_p1 := hs_p1.step hst
       replace hs_p2 := hs_p2.step hst
       replace hs_p3 := hs_p3.step hst
       replace hs_p4 := hs_p4.step hst
       replace hf7_1 := he45.box hf7_1 (hms.apart 0 4 rfl rfl rfl _ mem1)
       replace hf7_2 := hf7_2.step hst
       replace hf14_1 := hf14_1.step hst he45 (hms.apart 1 4 rfl rfl rfl)
       replace hf14_2 := hf14_2.step hst he45 (hms.apart 2 4 rfl rfl rfl)
       replace hf14_3 := hf14_3.step (plain_int _) he45 (hms.apart 3 4 rfl rfl rfl)
       replace hs31 := hs31.step hst
       replace hs35 := hs35.step hst
       replace hs39 := hs39.step hst
       replace hs43 := hs43.step hst
       replace hms : MS w45 [[b0_7], blk a0_14, blk a2_14, B6_14, blk a45, M] := hms.upd 4 he45 rfl hn45
       have hfr2 : FR w.heap.size [[b0_7], blk a0_14, blk a2_14, B6_14, blk a45] := hfr.upd 4 rfl hev.size (fun b hb => (hn45 b hb).1)
       replace hev := hev.then he45 (fun b hb => .inr (hfr.at 4 rfl b hb))
       replace hfr := hfr2
       clear hfr2
       replace hj23_l21 := hw45 (fl [[b0_7], blk a0_14, blk a2_14, B6_14, blk a45, M]) hst.new
       clear hw45
       refine x_u 1 [(16, .slice a45 ((d23_l21 ++ ([(x33.1, x37.1, x41.1, false)] : List (Int × Int × Int × Bool)))).length c45)] ?_
       refine x_end rfl ?_
       exact k_then ⟨(x41.2, (d23_l21 ++ ([(x33.1, x37.1, x41.1, false)] : List (Int × Int × Int × Bool))), a45, c45), ⟨rfl, rfl, rfl, rfl, rfl, rfl, rfl, rfl, rfl, rfl, trivial⟩, h, hev, hms, hfr, hs_p1, hs_p2, hs_p3, hs_p4, hf7_2, hf7_1, hf14_1, hf14_2, hf14_3, hj23_l21⟩
     refine c_skip ?_
     exact k_then ⟨(e8_l21_1, d23_l21, a23_l21, c23_l21), ⟨rfl, rfl, rfl, rfl, rfl, rfl, rfl, rfl, rfl, rfl, trivial⟩, h, hev, hms, hfr, hs_p1, hs_p2, hs_p3, hs_p4, hf7_2, hf7_1, hf14_1, hf14_2, hf14_3, hj23_l21⟩
   rintro ⟨e8_j30_1, d23_j30, a23_j30, c23_j30⟩ J wj30 ⟨h, hev, hms, hfr, hs_p1, hs_p2, hs_p3, hs_p4, hf7_2, hf7_1, hf14_1, hf14_2, hf14_3, hj23_l21⟩
   refine c_join (σ := Int × (List ((List UInt8) × Int)) × (List Int) × (List (List Int)) × Option Addr × Nat × List Nat) (fun s => match s with | (e8_j46_1, d15_j46, d16_j46, d17_j46, a16_j46, c16_j46, B17_j46) => [(1, .slice a_p1 (p1).length c_p1), (2, .slice a_p2 (p2).length c_p2), (3, .slice a_p3 (p3).length c_p3), (4, .slice a_p4 (p4).length c_p4), (11, Vp b0_7 0), (12, Vi i_s12_l11), (13, .slice a0_14 (d15_j46).length c0_14), (14, .slice a16_j46 (d16_j46).length c16_j46), (15, .slice a4_14 (d17_j46).length c4_14), (16, .slice a23_j30 (d23_j30).length c23_j30)]) (fun s w' => match s with | (e8_j46_1, d15_j46, d16_j46, d17_j46, a16_j46, c16_j46, B17_j46) => law42_InventoryExact_J46 p4 x6 i_s12_l11 d23_j30 e8_j46_1 d15_j46 d16_j46 d17_j46 = some t11 ∧ Ev [] w w' ∧ MS w' [[b0_7], blk a0_14, blk a16_j46, B17_j46, blk a23_j30, M] ∧ FR w.heap.size [[b0_7], blk a0_14, blk a16_j46, B17_j46, blk a23_j30] ∧ SlR (eProd eStr (eInt .i64)) w' (fl [[b0_7], blk a0_14, blk a16_j46, B17_j46, blk a23_j30, M]) a_p1 c_p1 p1 ∧ SlR (eInt .i64) w' (fl [[b0_7], blk a0_14, blk a16_j46, B17_j46, blk a23_j30, M]) a_p2 c_p2 p2 ∧ SlR (eSl (eInt .i64)) w' (fl [[b0_7], blk a0_14, blk a16_j46, B17_j46, blk a23_j30, M]) a_p3 c_p3 p3 ∧ SlR (eProd (eInt .i64) (eProd (eInt .i64) (eProd (eInt .i64) eBool))) w' (fl [[b0_7], blk a0_14, blk a16_j46, B17_j46, blk a23_j30, M]) a_p4 c_p4 p4 ∧ SlR (eInt .i64) w' (fl [[b0_7], blk a0_14, blk a16_j46, B17_j46, blk a23_j30, M]) a1_7 c1_7 x6.1 ∧ w'.heap[b0_7]? = some (.cells #[.slice a1_7 (x6.1).length c1_7, Vi e8_j46_1] 52 (0, 0)) ∧ OwnS (eProd eStr (eInt .i64)) 45 w' (fl [[b0_7], blk a0_14, blk a16_j46, B17_j46, blk a23_j30, M]) a0_14 c0_14 d15_j46 ∧ OwnS (eInt .i64) 3 w' (fl [[b0_7], blk a0_14, blk a16_j46, B17_j46, blk a23_j30, M]) a16_j46 c16_j46 d16_j46 ∧ OwnR (eInt .i64) 3 22 w' B17_j46 a4_14 c4_14 d17_j46 none ∧ OwnS (eProd (eInt .i64) (eProd (eInt .i64) (eProd (eInt .i64) eBool))) 30 w' (fl [[b0_7], blk a0_14, blk a16_j46, B17_j46, blk a23_j30, M]) a23_j30 c23_j30 d23_j30) ?_ ?_
   · refine c_sp ?_
     refine x_u 2 [(65, Vi i_s12_l11), (66, .bool (i_s12_l11 == 3))] ?_
     refine x_ek ?_
     refine c_norm [(1, .slice a_p1 (p1).length c_p1), (2, .slice a_p2 (p2).length c_p2), (3, .slice a_p3 (p3).length c_p3), (4, .slice a_p4 (p4).length c_p4), (11, Vp b0_7 0), (12, Vi i_s12_l11), (13, .slice a0_14 (x13.1).length c0_14), (14, .slice a2_14 (x13.2.1).length c2_14), (15, .slice a4_14 (x13.2.2.1).length c4_14), (16, .slice a23_j30 (d23_j30).length c23_j30), (66, .bool (i_s12_l11 == 3))] ⟨rfl, rfl, rfl, rfl, rfl, rfl, rfl, rfl, rfl, rfl, rfl, trivial⟩ (fun J => ?_)
     refine c_if (i_s12_l11 == 3) rfl h (fun h => ?_) (fun h => ?_)
     · refine c_seq ?_
       refine c_drawn ([b0_7] ++ innr a4_14 B6_14) [(0, false), (1, false), (2, false), (3, false), (4, false), (5, true), (6, true), (7, false), (8, false), (9, false), (10, false), (11, true), (12, true)] _ (by kernel_rfl) rfl ?_
       have hst := Stp.ext (ls := [[b0_7], blk a0_14, blk a2_14, B6_14, blk a23_j30, M]) (Ev.drew wj30)
       replace hs_p1 := hs_p1.step hst
       replace hs_p2 := hs_p2.step hst
       replace hs_p3 := hs_p3.step hst
       replace hs_p4 := hs_p4.step hst
       replace hf7_1 := (Ev.drew wj30).box hf7_1 nn
       replace hf7_2 := hf7_2.step hst
       replace hf14_1 := hf14_1.step hst (Ev.drew wj30) nn2
       replace hf14_2 := hf14_2.step hst (Ev.drew wj30) nn2
       replace hf14_3 := hf14_3.step (plain_int _) (Ev.drew wj30) nn2
       replace hj23_l21 := hj23_l21.step hst (Ev.drew wj30) nn2
       replace hms := hms.ev (Ev.drew wj30)
       replace hev := hev.ext (Ev.drew wj30)
       refine x_u 2 [(67, .slice a4_14 (x13.2.2.1).length c4_14), (68, .slice a4_14 (x13.2.2.1).length c4_14)] ?_
       obtain ⟨x47, hx47, h⟩ := bind_some h
       obtain ⟨g47, ai47, ci47, hr47, hv47⟩ := OwnR.view (P := Try.prog) (Mo := ([b0_7] ++ innr a4_14 B6_14)) tsl26 hf14_3 hx47
       refine x_indexAddr (xv := .slice a4_14 (x13.2.2.1).length c4_14) (yv := Vi 0) (.pointer (some ⟨g47, (Int.toNat 0), none⟩)) rfl rfl rfl rfl hr47 ?_
       refine x_load (xv := .pointer (some ⟨g47, (Int.toNat 0), none⟩)) (.slice ai47 (x47).length ci47) rfl rfl rfl (RView.loadI2 tcell22 hv47 (hms.apart 3 0 rfl rfl rfl)) ?_
       refine x_u 2 [(71, Vp b0_7 0), (72, .slice a2_14 (x13.2.1).length c2_14)] ?_
       refine x_len (vs := [.slice a2_14 (x13.2.1).length c2_14]) (Vi ((x13.2.1).length : Int)) rfl rfl rfl (reads_len tsl22 _ _ _ _ _) ?_
       refine x_buildSlice (vs := [(0, Vi (-1)), (1, Vi 0), (2, Vi ((x13.2.1).length : Int))]) #[Vi (-1), Vi 0, Vi ((x13.2.1).length : Int)] 3 rfl rfl rfl (by kernel_rfl) (fun b49 w49 hq49 hb49 he49 hz49 => ?_)
       refine ⟨.inr (he49.nil), ?_⟩
       have hms0 := hms
       have hst := Stp.ext (ls := [[b0_7], blk a0_14, blk a2_14, B6_14, blk a23_j30, M]) he49
       replace hs_p1 := hs_p1.step hst
       replace hs_p2 := hs_p2.step hst
       replace hs_p3 := hs_p3.step hst
       replace hs_p4 := hs_p4.step hst
       replace hf7_1 := he49.box hf7_1 nn
       replace hf7_2 := hf7_2.step hst
       replace hf14_1 := hf14_1.step hst he49 nn2
       replace hf14_2 := hf14_2.step hst he49 nn2
       replace hf14_3 := hf14_3.step (plain_int _) he49 nn2
       replace hj23_l21 := hj23_l21.step hst he49 nn2
       replace hv47 := hv47.step (plain_int _) he49 nn2
       replace hms := hms.ev he49
       replace hev := hev.ext he49
       have hs49 : SlR (eInt .i64) w49 (fl [[b0_7], blk a0_14, blk a2_14, B6_14, blk a23_j30, M]) (Ad b49 0) 3 ([(-1), 0, ((x13.2.1).length : Int)]) := ro_of_box hms0 hq49 hb49 rfl rfl (cells_at (cs := [Vi (-1), Vi 0, Vi ((x13.2.1).length : Int)]) (CellsOf.cons (c := [Vi (-1)]) rfl (CellsOf.cons (c := [Vi 0]) rfl (CellsOf.cons (c := [Vi ((x13.2.1).length : Int)]) rfl CellsOf.nil))))
       clear hb49 hms0
       obtain ⟨x51, hx, h⟩ := bind_some h
       have hpk : MS w49 ([[b0_7]] ++ [blk a0_14, blk a2_14, B6_14, blk a23_j30, M]) := hms.pick [some 0, some 1, some 2, some 3, some 4, some 5] _ rfl
       have hsb0 : ∀ x ∈ fl ([[b0_7]] ++ [blk a0_14, blk a2_14, B6_14, blk a23_j30, M]), x ∈ fl [[b0_7], blk a0_14, blk a2_14, B6_14, blk a23_j30, M] := pick_sub [some 0, some 1, some 2, some 3, some 4, some 5] _ rfl
       have hsb : ∀ x ∈ fl ([[b0_7]] ++ [(fl [blk a0_14, blk a2_14, B6_14, blk a23_j30, M])]), x ∈ fl [[b0_7], blk a0_14, blk a2_14, B6_14, blk a23_j30, M] := fun x hx => hsb0 x (fl_unfold x hx)
       have hcall := gen_Maker_Pick_w b0_7 a1_7 c1_7 x6.1 e8_j30_1 (Ad b49 0) 3 ([(-1), 0, ((x13.2.1).length : Int)]) _ w49 (fl [blk a0_14, blk a2_14, B6_14, blk a23_j30, M]) (hpk.fold (P := [[b0_7]])) (hf7_2.sub hsb) hf7_1 (hs49.sub hsb) hx
       refine x_call 15 #[] #[] [Vp b0_7 0, .slice (Ad b49 0) ([(-1), 0, ((x13.2.1).length : Int)]).length 3] _ rfl rfl rfl rfl hcall ?_
       rintro v w52 ⟨rfl, he52, hp52_0⟩
       clear hcall hx
       refine ⟨.inr (he52.sub (fun x hx => List.mem_append_left _ hx)), ?_⟩
       have hpk2 : MS w49 ([[b0_7]] ++ [blk a0_14, blk a2_14, B6_14, blk a23_j30, M]) := hms.pick [some 0, some 1, some 2, some 3, some 4, some 5] _ rfl
       have hsb2 : ∀ x ∈ fl ([[b0_7]] ++ [blk a0_14, blk a2_14, B6_14, blk a23_j30, M]), x ∈ fl [[b0_7], blk a0_14, blk a2_14, B6_14, blk a23_j30, M] := pick_sub [some 0, some 1, some 2, some 3, some 4, some 5] _ rfl
       have hst0 := Stp.call (LS := [[b0_7], blk a0_14, blk a2_14, B6_14, blk a23_j30, M]) (res := []) (par := [[b0_7]]) (R := [blk a0_14, blk a2_14, B6_14, blk a23_j30, M]) he52 (fun b hb => hsb2 b (fl_left' (P := [[b0_7]]) b hb)) (FR.nil _) (NP.init _ _) (fun x hx => hsb2 x (fl_right' (P := [[b0_7]]) x hx))
       have hsn : ∀ x ∈ fl [[b0_7], blk a0_14, blk a2_14, B6_14, blk a23_j30, M], x ∈ fl ([] ++ ([[b0_7]] ++ [blk a0_14, blk a2_14, B6_14, blk a23_j30, M])) := pick_sub [some 0, some 1, some 2, some 3, some 4, some 5] _ rfl
       have hst := hst0.res hsn
       replace hs_p1 := hs_p1.step hst
       replace hs_p2 := hs_p2.step hst
       replace hs_p3 := hs_p3.step hst
       replace hs_p4 := hs_p4.step hst
       replace hf7_2 := hf7_2.step hst
       replace hf14_1 := hf14_1.step hst he52 (MS.outs (P := [[b0_7]]) hpk2 0 rfl)
       replace hf14_2 := hf14_2.step hst he52 (MS.outs (P := [[b0_7]]) hpk2 1 rfl)
       replace hf14_3 := hf14_3.step (plain_int _) he52 (MS.outs (P := [[b0_7]]) hpk2 2 rfl)
       replace hj23_l21 := hj23_l21.step hst he52 (MS.outs (P := [[b0_7]]) hpk2 3 rfl)
       replace hv47 := hv47.step (plain_int _) he52 (MS.outs (P := [[b0_7]]) hpk2 2 rfl)
       replace hs49 := hs49.step hst
       replace hms := hms.ev he52
       have hPf : ∀ b ∈ fl [[b0_7]], w.heap.size ≤ b := FR.mem (ls := [[b0_7]]) (hfr.pick [some 0] _ rfl)
       replace hev := hev.then he52 (fun b hb => .inr (hPf b hb))
       replace hf7_1 := hp52_0
       clear hpk hsb hsb0 hpk2 hsb2 hst0 hsn hst
       refine x_buildSlice (vs := [(0, Vi x51.1)]) #[Vi x51.1] 3 rfl rfl rfl (by kernel_rfl) (fun b53 w53 hq53 hb53 he53 hz53 => ?_)
       refine ⟨.inr (he53.nil), ?_⟩
       have hms0 := hms
       have hst := Stp.ext (ls := [[b0_7], blk a0_14, blk a2_14, B6_14, blk a23_j30, M]) he53
       replace hs_p1 := hs_p1.step hst
       replace hs_p2 := hs_p2.step hst
       replace hs_p3 := hs_p3.step hst
       replace hs_p4 := hs_p4.step hst
       replace hf7_1 := he53.box hf7_1 nn
       replace hf7_2 := hf7_2.step hst
       replace hf14_1 := hf14_1.step hst he53 nn2
       replace hf14_2 := hf14_2.step hst he53 nn2
       replace hf14_3 := hf14_3.step (plain_int _) he53 nn2
       replace hj23_l21 := hj23_l21.step hst he53 nn2
       replace hv47 := hv47.step (plain_int _) he53 nn2
       replace hs49 := hs49.step hst
       replace hms := hms.ev he53
       replace hev := hev.ext he53
       have hs53 : SlR (eInt .i64) w53 (fl [[b0_7], blk a0_14, blk a2_14, B6_14, blk a23_j30, M]) (Ad b53 0) 1 ([x51.1]) := ro_of_box hms0 hq53 hb53 rfl rfl (cells_at (cs := [Vi x51.1]) (CellsOf.cons (c := [Vi x51.1]) rfl CellsOf.nil))
       clear hb53 hms0
       have hin55 := RView.inner hv47 hf14_3
       obtain ⟨B55, hR55, ho55, hs1, hs2, hs3⟩ := OwnR.opn hf14_3 hv47
       replace hf14_3 := hR55
       have hms2 := hms.split 3 rfl hs2 hs1 hs3
       have hsu : ∀ x ∈ fl [blk ai47, [b0_7], blk a0_14, blk a2_14, B55, blk a23_j30, M], x ∈ fl [[b0_7], blk a0_14, blk a2_14, B6_14, blk a23_j30, M] := split_sub (ls := [[b0_7], blk a0_14, blk a2_14, B6_14, blk a23_j30, M]) 3 rfl hs2 hs1
       replace hms : MS w53 [blk ai47, [b0_7], blk a0_14, blk a2_14, B55, blk a23_j30, M] := hms2
       replace hfr : FR w.heap.size [blk ai47, [b0_7], blk a0_14, blk a2_14, B55, blk a23_j30] := (hfr.upd 3 rfl hev.size (fun b hb => .inl (hs1 b hb))).push (fun b hb => hfr.at 3 rfl b (hs2 b hb))
       replace hs_p1 := hs_p1.sub hsu
       replace hs_p2 := hs_p2.sub hsu
       replace hs_p3 := hs_p3.sub hsu
       replace hs_p4 := hs_p4.sub hsu
       replace hf7_2 := hf7_2.sub hsu
       replace hf14_1 := hf14_1.sub hsu
       replace hf14_2 := hf14_2.sub hsu
       replace hj23_l21 := hj23_l21.sub hsu
       replace hs49 := hs49.sub hsu
       replace hs53 := hs53.sub hsu
       replace ho55 := OwnS.plain (M' := fl [blk ai47, [b0_7], blk a0_14, blk a2_14, B55, blk a23_j30, M]) (plain_int _) ho55
       have hg55 := hv47.eq
       have hx55 := hv47.at_
       clear hv47 hms2 hs1 hs2 hs3 hsu
       have hg := guard_l h
       replace h := guard_r h
       obtain ⟨a57, c57, w57, hr57, he57, hn57, hm57, hw57⟩ := own_appendN tel22 22 ho55 (mem_flat 0 rfl) hs53 hg
       refine x_builtin (vs := [.slice ai47 (x47).length ci47, .slice (Ad b53 0) ([x51.1]).length 1]) _ w57 rfl rfl rfl rfl (run_value _ _ _ _ hr57) ?_
       refine ⟨.inr (he57.sub (fun x hx => List.mem_append_right _ (hin55 x hx))), ?_⟩
       have hst : Stp (fl [blk ai47, [b0_7], blk a0_14, blk a2_14, B55, blk a23_j30, M]) w53 (fl [blk a57, [b0_7], blk a0_14, blk a2_14, B55, blk a23_j30, M]) w57 := Stp.upd 0 he57 rfl (fun b hb => (hn57 b hb).1)
       replace hs_p1 := hs_p1.step hst
       replace hs_p2 := hs_p2.step hst
       replace hs_p3 := hs_p3.step hst
       replace hs_p4 := hs_p4.step hst
       replace hf7_1 := he57.box hf7_1 (hms.apart 1 0 rfl rfl rfl _ mem1)
       replace hf7_2 := hf7_2.step hst
       replace hf14_1 := hf14_1.step hst he57 (hms.apart 2 0 rfl rfl rfl)
       replace hf14_2 := hf14_2.step hst he57 (hms.apart 3 0 rfl rfl rfl)
       replace hf14_3 := hf14_3.step (plain_int _) he57 (hms.apart 4 0 rfl rfl rfl)
       replace hj23_l21 := hj23_l21.step hst he57 (hms.apart 5 0 rfl rfl rfl)
       replace hs49 := hs49.step hst
       replace hs53 := hs53.step hst
       replace hms : MS w57 [blk a57, [b0_7], blk a0_14, blk a2_14, B55, blk a23_j30, M] := hms.upd 0 he57 rfl hn57
       have hfr2 : FR w.heap.size [blk a57, [b0_7], blk a0_14, blk a2_14, B55, blk a23_j30] := hfr.upd 0 rfl hev.size (fun b hb => (hn57 b hb).1)
       replace hev := hev.then he57 (fun b hb => .inr (hfr.at 0 rfl b hb))
       replace hfr := hfr2
       clear hfr2
       replace ho55 := hw57 (fl [blk a57, [b0_7], blk a0_14, blk a2_14, B55, blk a23_j30, M]) hst.new
       clear hw57
       obtain ⟨x58, hx58, h⟩ := bind_some h
       obtain ⟨g58, hg58, hr58, hy58⟩ := OwnR.addr (P := Try.prog) (Mo := []) tsl26 hf14_3 hx58
       refine x_indexAddr (xv := .slice a4_14 (x13.2.2.1).length c4_14) (yv := Vi 0) (.pointer (some ⟨g58, (Int.toNat 0), none⟩)) rfl rfl rfl rfl hr58 ?_
       obtain ⟨w60, B60, hr60, he60, hn60, hR60⟩ := OwnR.cls (P := Try.prog) (plain_int _) tcell22 hf14_3 hg58 hy58 ho55 (hms.apart 0 4 rfl rfl rfl) (hms.ltat 4 rfl)
       refine x_store w60 (xv := .pointer (some ⟨g58, (Int.toNat 0), none⟩)) (yv := .slice a57 ((x47 ++ [x51.1])).length c57) rfl rfl rfl rfl hr60 ?_
       refine inl1 ?_
       have hms2 := hms.merge (C := blk a57 ++ B55) 0 4 rfl rfl (fun x hx => List.mem_append.1 hx)
       replace hfr : FR w.heap.size [[b0_7], blk a0_14, blk a2_14, blk a57 ++ B55, blk a23_j30] := (FR.cons (hfr.at 1 rfl) (FR.cons (hfr.at 2 rfl) (FR.cons (hfr.at 3 rfl) (FR.cons (fun b hb => (List.mem_append.1 hb).elim (hfr.at 0 rfl b) (hfr.at 4 rfl b)) (FR.cons (hfr.at 5 rfl) (FR.nil _))))))
       have hsu : ∀ x ∈ fl [[b0_7], blk a0_14, blk a2_14, blk a57 ++ B55, blk a23_j30, M], x ∈ fl [blk a57, [b0_7], blk a0_14, blk a2_14, B55, blk a23_j30, M] := merge_sub (ls := [blk a57, [b0_7], blk a0_14, blk a2_14, B55, blk a23_j30, M]) (C := blk a57 ++ B55) 0 4 rfl rfl (fun x hx => List.mem_append.1 hx)
       replace hms : MS w57 [[b0_7], blk a0_14, blk a2_14, blk a57 ++ B55, blk a23_j30, M] := hms2
       replace hs_p1 := hs_p1.sub hsu
       replace hs_p2 := hs_p2.sub hsu
       replace hs_p3 := hs_p3.sub hsu
       replace hs_p4 := hs_p4.sub hsu
       replace hf7_2 := hf7_2.sub hsu
       replace hf14_1 := hf14_1.sub hsu
       replace hf14_2 := hf14_2.sub hsu
       replace hj23_l21 := hj23_l21.sub hsu
       replace hs49 := hs49.sub hsu
       replace hs53 := hs53.sub hsu
       clear hms2 hsu
       have hst : Stp (fl [[b0_7], blk a0_14, blk a2_14, blk a57 ++ B55, blk a23_j30, M]) w57 (fl [[b0_7], blk a0_14, blk a2_14, B60, blk a23_j30, M]) w60 := Stp.upd 3 he60 rfl (fun b hb => (hn60 b hb).1)
       replace hs_p1 := hs_p1.step hst
       replace hs_p2 := hs_p2.step hst
       replace hs_p3 := hs_p3.step hst
       replace hs_p4 := hs_p4.step hst
       replace hf7_1 := he60.box hf7_1 (hms.apart 0 3 rfl rfl rfl _ mem1)
       replace hf7_2 := hf7_2.step hst
       replace hf14_1 := hf14_1.step hst he60 (hms.apart 1 3 rfl rfl rfl)
       replace hf14_2 := hf14_2.step hst he60 (hms.apart 2 3 rfl rfl rfl)
       replace hj23_l21 := hj23_l21.step hst he60 (hms.apart 4 3 rfl rfl rfl)
       replace hs49 := hs49.step hst
       replace hs53 := hs53.step hst
       replace hms : MS w60 [[b0_7], blk a0_14, blk a2_14, B60, blk a23_j30, M] := hms.upd 3 he60 rfl hn60
       have hfr2 : FR w.heap.size [[b0_7], blk a0_14, blk a2_14, B60, blk a23_j30] := hfr.upd 3 rfl hev.size (fun b hb => (hn60 b hb).1)
       replace hev := hev.then he60 (fun b hb => .inr (hfr.at 3 rfl b hb))
       replace hfr := hfr2
       clear hfr2
       replace hf14_3 := hR60
       have hsl : (Value.slice a4_14 (x13.2.2.1).length c4_14) = (Value.slice a4_14 ((x13.2.2.1.set (Int.toNat 0) (x47 ++ [x51.1]))).length c4_14) := by first | (rw [List.length_set]; done) | simp only [List.length_set]
       try rw [hsl]
       clear hsl
       refine x_ek ?_
       refine c_sp ?_
       refine x_u 2 [(79, .slice a2_14 (x13.2.1).length c2_14), (80, Vp b0_7 0)] ?_
       refine x_buildSlice (vs := [(0, Vi 0), (1, Vi 1), (2, Vi 400), (3, Vi 401)]) #[Vi 0, Vi 1, Vi 400, Vi 401] 3 rfl rfl rfl (by kernel_rfl) (fun b61 w61 hq61 hb61 he61 hz61 => ?_)
       refine inl1 ?_
       have hms0 := hms
       have hst := Stp.ext (ls := [[b0_7], blk a0_14, blk a2_14, B60, blk a23_j30, M]) he61
       replace hs_p1 := hs_p1.step hst
       replace hs_p2 := hs_p2.step hst
       replace hs_p3 := hs_p3.step hst
       replace hs_p4 := hs_p4.step hst
       replace hf7_1 := he61.box hf7_1 nn
       replace hf7_2 := hf7_2.step hst
       replace hf14_1 := hf14_1.step hst he61 nn2
       replace hf14_2 := hf14_2.step hst he61 nn2
       replace hf14_3 := hf14_3.step (plain_int _) he61 nn2
       replace hj23_l21 := hj23_l21.step hst he61 nn2
       replace hms := hms.ev he61
       replace hev := hev.ext he61
       have hs61 : SlR (eInt .i64) w61 (fl [[b0_7], blk a0_14, blk a2_14, B60, blk a23_j30, M]) (Ad b61 0) 4 ([0, 1, 400, 401]) := ro_of_box hms0 hq61 hb61 rfl rfl (cells_at (cs := [Vi 0, Vi 1, Vi 400, Vi 401]) (CellsOf.cons (c := [Vi 0]) rfl (CellsOf.cons (c := [Vi 1]) rfl (CellsOf.cons (c := [Vi 400]) rfl (CellsOf.cons (c := [Vi 401]) rfl CellsOf.nil)))))
       clear hb61 hms0
       obtain ⟨x63, hx, h⟩ := bind_some h
       have hpk : MS w61 ([[b0_7]] ++ [blk a0_14, blk a2_14, B60, blk a23_j30, M]) := hms.pick [some 0, some 1, some 2, some 3, some 4, some 5] _ rfl
       have hsb0 : ∀ x ∈ fl ([[b0_7]] ++ [blk a0_14, blk a2_14, B60, blk a23_j30, M]), x ∈ fl [[b0_7], blk a0_14, blk a2_14, B60, blk a23_j30, M] := pick_sub [some 0, some 1, some 2, some 3, some 4, some 5] _ rfl
       have hsb : ∀ x ∈ fl ([[b0_7]] ++ [(fl [blk a0_14, blk a2_14, B60, blk a23_j30, M])]), x ∈ fl [[b0_7], blk a0_14, blk a2_14, B60, blk a23_j30, M] := fun x hx => hsb0 x (fl_unfold x hx)
       have hcall := gen_Maker_Pick_w b0_7 a1_7 c1_7 x6.1 x51.2 (Ad b61 0) 4 ([0, 1, 400, 401]) _ w61 (fl [blk a0_14, blk a2_14, B60, blk a23_j30, M]) (hpk.fold (P := [[b0_7]])) (hf7_2.sub hsb) hf7_1 (hs61.sub hsb) hx
       refine x_call 15 #[] #[] [Vp b0_7 0, .slice (Ad b61 0) ([0, 1, 400, 401]).length 4] _ rfl rfl rfl rfl hcall ?_
       rintro v w64 ⟨rfl, he64, hp64_0⟩
       clear hcall hx
       refine inl1 ?_
       have hpk2 : MS w61 ([[b0_7]] ++ [blk a0_14, blk a2_14, B60, blk a23_j30, M]) := hms.pick [some 0, some 1, some 2, some 3, some 4, some 5] _ rfl
       have hsb2 : ∀ x ∈ fl ([[b0_7]] ++ [blk a0_14, blk a2_14, B60, blk a23_j30, M]), x ∈ fl [[b0_7], blk a0_14, blk a2_14, B60, blk a23_j30, M] := pick_sub [some 0, some 1, some 2, some 3, some 4, some 5] _ rfl
       have hst0 := Stp.call (LS := [[b0_7], blk a0_14, blk a2_14, B60, blk a23_j30, M]) (res := []) (par := [[b0_7]]) (R := [blk a0_14, blk a2_14, B60, blk a23_j30, M]) he64 (fun b hb => hsb2 b (fl_left' (P := [[b0_7]]) b hb)) (FR.nil _) (NP.init _ _) (fun x hx => hsb2 x (fl_right' (P := [[b0_7]]) x hx))
       have hsn : ∀ x ∈ fl [[b0_7], blk a0_14, blk a2_14, B60, blk a23_j30, M], x ∈ fl ([] ++ ([[b0_7]] ++ [blk a0_14, blk a2_14, B60, blk a23_j30, M])) := pick_sub [some 0, some 1, some 2, some 3, some 4, some 5] _ rfl
       have hst := hst0.res hsn
       replace hs_p1 := hs_p1.step hst
       replace hs_p2 := hs_p2.step hst
       replace hs_p3 := hs_p3.step hst
       replace hs_p4 := hs_p4.step hst
       replace hf7_2 := hf7_2.step hst
       replace hf14_1 := hf14_1.step hst he64 (MS.outs (P := [[b0_7]]) hpk2 0 rfl)
       replace hf14_2 := hf14_2.step hst he64 (MS.outs (P := [[b0_7]]) hpk2 1 rfl)
       replace hf14_3 := hf14_3.step (plain_int _) he64 (MS.outs (P := [[b0_7]]) hpk2 2 rfl)
       replace hj23_l21 := hj23_l21.step hst he64 (MS.outs (P := [[b0_7]]) hpk2 3 rfl)
       replace hs61 := hs61.step hst
       replace hms := hms.ev he64
       have hPf : ∀ b ∈ fl [[b0_7]], w.heap.size ≤ b := FR.mem (ls := [[b0_7]]) (hfr.pick [some 0] _ rfl)
       replace hev := hev.then he64 (fun b hb => .inr (hPf b hb))
       replace hf7_1 := hp64_0
       clear hpk hsb hsb0 hpk2 hsb2 hst0 hsn hst
       refine x_buildSlice (vs := [(0, Vi x63.1)]) #[Vi x63.1] 3 rfl rfl rfl (by kernel_rfl) (fun b65 w65 hq65 hb65 he65 hz65 => ?_)
       refine inl1 ?_
       have hms0 := hms
       have hst := Stp.ext (ls := [[b0_7], blk a0_14, blk a2_14, B60, blk a23_j30, M]) he65
       replace hs_p1 := hs_p1.step hst
       replace hs_p2 := hs_p2.step hst
       replace hs_p3 := hs_p3.step hst
       replace hs_p4 := hs_p4.step hst
       replace hf7_1 := he65.box hf7_1 nn
       replace hf7_2 := hf7_2.step hst
       replace hf14_1 := hf14_1.step hst he65 nn2
       replace hf14_2 := hf14_2.step hst he65 nn2
       replace hf14_3 := hf14_3.step (plain_int _) he65 nn2
       replace hj23_l21 := hj23_l21.step hst he65 nn2
       replace hs61 := hs61.step hst
       replace hms := hms.ev he65
       replace hev := hev.ext he65
       have hs65 : SlR (eInt .i64) w65 (fl [[b0_7], blk a0_14, blk a2_14, B60, blk a23_j30, M]) (Ad b65 0) 1 ([x63.1]) := ro_of_box hms0 hq65 hb65 rfl rfl (cells_at (cs := [Vi x63.1]) (CellsOf.cons (c := [Vi x63.1]) rfl CellsOf.nil))
       clear hb65 hms0
       have hg := guard_l h
       replace h := guard_r h
       obtain ⟨a67, c67, w67, hr67, he67, hn67, hm67, hw67⟩ := own_appendN tel22 22 hf14_2 (mem_flat 2 rfl) hs65 hg
       refine x_builtin (vs := [.slice a2_14 (x13.2.1).length c2_14, .slice (Ad b65 0) ([x63.1]).length 1]) _ w67 rfl rfl rfl rfl (run_value _ _ _ _ hr67) ?_
       refine inl1 ?_
       have hst : Stp (fl [[b0_7], blk a0_14, blk a2_14, B60, blk a23_j30, M]) w65 (fl [[b0_7], blk a0_14, blk a67, B60, blk a23_j30, M]) w67 := Stp.upd 2 he67 rfl (fun b hb => (hn67 b hb).1)
       replace hs_p1 := hs_p1.step hst
       replace hs_p2 := hs_p2.step hst
       replace hs_p3 := hs_p3.step hst
       replace hs_p4 := hs_p4.step hst
       replace hf7_1 := he67.box hf7_1 (hms.apart 0 2 rfl rfl rfl _ mem1)
       replace hf7_2 := hf7_2.step hst
       replace hf14_1 := hf14_1.step hst he67 (hms.apart 1 2 rfl rfl rfl)
       replace hf14_3 := hf14_3.step (plain_int _) he67 (hms.apart 3 2 rfl rfl rfl)
       replace hj23_l21 := hj23_l21.step hst he67 (hms.apart 4 2 rfl rfl rfl)
       replace hs61 := hs61.step hst
       replace hs65 := hs65.step hst
       replace hms : MS w67 [[b0_7], blk a0_14, blk a67, B60, blk a23_j30, M] := hms.upd 2 he67 rfl hn67
       have hfr2 : FR w.heap.size [[b0_7], blk a0_14, blk a67, B60, blk a23_j30] := hfr.upd 2 rfl hev.size (fun b hb => (hn67 b hb).1)
       replace hev := hev.then he67 (fun b hb => .inr (hfr.at 2 rfl b hb))
       replace hfr := hfr2
       clear hfr2
       replace hf14_2 := hw67 (fl [[b0_7], blk a0_14, blk a67, B60, blk a23_j30, M]) hst.new
       clear hw67
       refine x_u 1 [(14, .slice a67 ((x13.2.1 ++ [x63.1])).length c67)] ?_
       refine x_ek ?_
       refine c_norm [(1, .slice a_p1 (p1).length c_p1), (2, .slice a_p2 (p2).length c_p2), (3, .slice a_p3 (p3).length c_p3), (4, .slice a_p4 (p4).length c_p4), (11, Vp b0_7 0), (12, Vi i_s12_l11), (13, .slice a0_14 (x13.1).length c0_14), (14, .slice a67 ((x13.2.1 ++ [x63.1])).length c67), (15, .slice a4_14 ((x13.2.2.1.set (Int.toNat 0) (x47 ++ [x51.1]))).length c4_14), (16, .slice a23_j30 (d23_j30).length c23_j30)] ⟨rfl, rfl, rfl, rfl, rfl, rfl, rfl, rfl, rfl, rfl, trivial⟩ (fun J => ?_)
       refine c_plain ?_
       refine x_u 3 [(85, .slice a0_14 (x13.1).length c0_14), (86, Vp b0_7 0), (87, .slice a0_14 (x13.1).length c0_14)] ?_
       obtain ⟨x68, hx68, h⟩ := bind_some h
       obtain ⟨g68, cs68, ha68, hr68, hc68, hR⟩ := own_index (Mo := []) tsl25 hf14_1 hx68
       obtain ⟨_, _, rfl, rfl, rfl⟩ := hR
       refine x_indexAddr (xv := .slice a0_14 (x13.1).length c0_14) (yv := Vi 0) (.pointer (some ⟨g68, (Int.toNat 0) * (eProd eStr (eInt .i64)).n, none⟩)) rfl rfl rfl rfl hr68 ?_
       refine x_fieldAddr (xv := .pointer (some ⟨g68, (Int.toNat 0) * (eProd eStr (eInt .i64)).n, none⟩)) (.pointer (some ⟨g68, (Int.toNat 0) * (eProd eStr (eInt .i64)).n + 1, none⟩)) rfl rfl rfl (reads_field tfld45_1 _ _) ?_
       refine x_load (xv := .pointer (some ⟨g68, (Int.toNat 0) * (eProd eStr (eInt .i64)).n + 1, none⟩)) (Vi x68.2) rfl rfl rfl (reads_cell tcell3 hc68 (fun _ h => by cases h) 1 _ rfl) ?_
       refine x_buildSlice (vs := [(0, Vi (-1)), (1, Vi 100000), (2, Vi 100001), (3, Vi x68.2)]) #[Vi (-1), Vi 100000, Vi 100001, Vi x68.2] 3 rfl rfl rfl (by kernel_rfl) (fun b70 w70 hq70 hb70 he70 hz70 => ?_)
       refine inl1 ?_
       have hms0 := hms
       have hst := Stp.ext (ls := [[b0_7], blk a0_14, blk a67, B60, blk a23_j30, M]) he70
       replace hs_p1 := hs_p1.step hst
       replace hs_p2 := hs_p2.step hst
       replace hs_p3 := hs_p3.step hst
       replace hs_p4 := hs_p4.step hst
       replace hf7_1 := he70.box hf7_1 nn
       replace hf7_2 := hf7_2.step hst
       replace hf14_1 := hf14_1.step hst he70 nn2
       replace hf14_2 := hf14_2.step hst he70 nn2
       replace hf14_3 := hf14_3.step (plain_int _) he70 nn2
       replace hj23_l21 := hj23_l21.step hst he70 nn2
       replace hms := hms.ev he70
       replace hev := hev.ext he70
       have hs70 : SlR (eInt .i64) w70 (fl [[b0_7], blk a0_14, blk a67, B60, blk a23_j30, M]) (Ad b70 0) 4 ([(-1), 100000, 100001, x68.2]) := ro_of_box hms0 hq70 hb70 rfl rfl (cells_at (cs := [Vi (-1), Vi 100000, Vi 100001, Vi x68.2]) (CellsOf.cons (c := [Vi (-1)]) rfl (CellsOf.cons (c := [Vi 100000]) rfl (CellsOf.cons (c := [Vi 100001]) rfl (CellsOf.cons (c := [Vi x68.2]) rfl CellsOf.nil)))))
       clear hb70 hms0
       obtain ⟨x72, hx, h⟩ := bind_some h
       have hpk : MS w70 ([[b0_7]] ++ [blk a0_14, blk a67, B60, blk a23_j30, M]) := hms.pick [some 0, some 1, some 2, some 3, some 4, some 5] _ rfl
       have hsb0 : ∀ x ∈ fl ([[b0_7]] ++ [blk a0_14, blk a67, B60, blk a23_j30, M]), x ∈ fl [[b0_7], blk a0_14, blk a67, B60, blk a23_j30, M] := pick_sub [some 0, some 1, some 2, some 3, some 4, some 5] _ rfl
       have hsb : ∀ x ∈ fl ([[b0_7]] ++ [(fl [blk a0_14, blk a67, B60, blk a23_j30, M])]), x ∈ fl [[b0_7], blk a0_14, blk a67, B60, blk a23_j30, M] := fun x hx => hsb0 x (fl_unfold x hx)
       have hcall := gen_Maker_Pick_w b0_7 a1_7 c1_7 x6.1 x63.2 (Ad b70 0) 4 ([(-1), 100000, 100001, x68.2]) _ w70 (fl [blk a0_14, blk a67, B60, blk a23_j30, M]) (hpk.fold (P := [[b0_7]])) (hf7_2.sub hsb) hf7_1 (hs70.sub hsb) hx
       refine x_call 15 #[] #[] [Vp b0_7 0, .slice (Ad b70 0) ([(-1), 100000, 100001, x68.2]).length 4] _ rfl rfl rfl rfl hcall ?_
       rintro v w73 ⟨rfl, he73, hp73_0⟩
       clear hcall hx
       refine inl1 ?_
       have hpk2 : MS w70 ([[b0_7]] ++ [blk a0_14, blk a67, B60, blk a23_j30, M]) := hms.pick [some 0, some 1, some 2, some 3, some 4, some 5] _ rfl
       have hsb2 : ∀ x ∈ fl ([[b0_7]] ++ [blk a0_14, blk a67, B60, blk a23_j30, M]), x ∈ fl [[b0_7], blk a0_14, blk a67, B60, blk a23_j30, M] := pick_sub [some 0, some 1, some 2, some 3, some 4, some 5] _ rfl
       have hst0 := Stp.call (LS := [[b0_7], blk a0_14, blk a67, B60, blk a23_j30, M]) (res := []) (par := [[b0_7]]) (R := [blk a0_14, blk a67, B60, blk a23_j30, M]) he73 (fun b hb => hsb2 b (fl_left' (P := [[b0_7]]) b hb)) (FR.nil _) (NP.init _ _) (fun x hx => hsb2 x (fl_right' (P := [[b0_7]]) x hx))
       have hsn : ∀ x ∈ fl [[b0_7], blk a0_14, blk a67, B60, blk a23_j30, M], x ∈ fl ([] ++ ([[b0_7]] ++ [blk a0_14, blk a67, B60, blk a23_j30, M])) := pick_sub [some 0, some 1, some 2, some 3, some 4, some 5] _ rfl
       have hst := hst0.res hsn
       replace hs_p1 := hs_p1.step hst
       replace hs_p2 := hs_p2.step hst
       replace hs_p3 := hs_p3.step hst
       replace hs_p4 := hs_p4.step hst
       replace hf7_2 := hf7_2.step hst
       replace hf14_1 := hf14_1.step hst he73 (MS.outs (P := [[b0_7]]) hpk2 0 rfl)
       replace hf14_2 := hf14_2.step hst he73 (MS.outs (P := [[b0_7]]) hpk2 1 rfl)
       replace hf14_3 := hf14_3.step (plain_int _) he73 (MS.outs (P := [[b0_7]]) hpk2 2 rfl)
       replace hj23_l21 := hj23_l21.step hst he73 (MS.outs (P := [[b0_7]]) hpk2 3 rfl)
       replace hs70 := hs70.step hst
       replace hms := hms.ev he73
       have hPf : ∀ b ∈ fl [[b0_7]], w.heap.size ≤ b := FR.mem (ls := [[b0_7]]) (hfr.pick [some 0] _ rfl)
       replace hev := hev.then he73 (fun b hb => .inr (hPf b hb))
       replace hf7_1 := hp73_0
       clear hpk hsb hsb0 hpk2 hsb2 hst0 hsn hst
       obtain ⟨x74, hx74, h⟩ := bind_some h
       obtain ⟨g74, cs74, ha74, hr74, hc74, hR⟩ := own_index (Mo := []) tsl25 hf14_1 hx74
       obtain ⟨_, _, rfl, rfl, rfl⟩ := hR
       refine x_indexAddr (xv := .slice a0_14 (x13.1).length c0_14) (yv := Vi 0) (.pointer (some ⟨g74, (Int.toNat 0) * (eProd eStr (eInt .i64)).n, none⟩)) rfl rfl rfl rfl hr74 ?_
       refine x_fieldAddr (xv := .pointer (some ⟨g74, (Int.toNat 0) * (eProd eStr (eInt .i64)).n, none⟩)) (.pointer (some ⟨g74, (Int.toNat 0) * (eProd eStr (eInt .i64)).n + 1, none⟩)) rfl rfl rfl (reads_field tfld45_1 _ _) ?_
       have hxs75_69 := hx68
       obtain ⟨w76, hr76, he76, ho76⟩ := own_storeE ha74 (y := (x74.1, x72.1)) 1 (Vi x72.1) tcell3 hf14_1 (mem_flat 1 rfl) hx74 rfl rfl (by intro w M cs hR; obtain ⟨_, _, rfl, rfl, rfl⟩ := hR; exact ⟨[_], _, rfl, rfl, rfl⟩)
       refine x_store w76 (xv := .pointer (some ⟨g74, (Int.toNat 0) * (eProd eStr (eInt .i64)).n + 1, none⟩)) (yv := Vi x72.1) rfl rfl rfl rfl hr76 ?_
       refine inl1 ?_
       have hst := Stp.ev' (ls := [[b0_7], blk a0_14, blk a67, B60, blk a23_j30, M]) he76 (mem_flat 1 rfl)
       replace hs_p1 := hs_p1.step hst
       replace hs_p2 := hs_p2.step hst
       replace hs_p3 := hs_p3.step hst
       replace hs_p4 := hs_p4.step hst
       replace hf7_1 := he76.box hf7_1 (hms.apart 0 1 rfl rfl rfl _ mem1)
       replace hf7_2 := hf7_2.step hst
       replace hf14_2 := hf14_2.step hst he76 (hms.apart 2 1 rfl rfl rfl)
       replace hf14_3 := hf14_3.step (plain_int _) he76 (hms.apart 3 1 rfl rfl rfl)
       replace hj23_l21 := hj23_l21.step hst he76 (hms.apart 4 1 rfl rfl rfl)
       replace hs70 := hs70.step hst
       replace hms := hms.ev he76
       replace hev := hev.then he76 (fun b hb => .inr (hfr.at 1 rfl b hb))
       replace hf14_1 := ho76
       have hsl : (Value.slice a0_14 (x13.1).length c0_14) = (Value.slice a0_14 ((x13.1.set (Int.toNat 0) (x74.1, x72.1))).length c0_14) := by first | (rw [List.length_set]; done) | simp only [List.length_set]
       try rw [hsl]
       clear hsl
       obtain ⟨_, hxs75_69⟩ : ∃ y, idx (x13.1.set (Int.toNat 0) (x74.1, x72.1)) 0 = some y := idx_set_any hxs75_69 _ _
       refine x_end rfl ?_
       exact k_then ⟨(x72.2, (x13.1.set (Int.toNat 0) (x74.1, x72.1)), (x13.2.1 ++ [x63.1]), (x13.2.2.1.set (Int.toNat 0) (x47 ++ [x51.1])), a67, c67, B60), ⟨rfl, rfl, rfl, rfl, rfl, rfl, rfl, rfl, rfl, rfl, trivial⟩, h, hev, hms, hfr, hs_p1, hs_p2, hs_p3, hs_p4, hf7_2, hf7_1, hf14_1, hf14_2, hf14_3, hj23_l21⟩
     refine c_skip ?_
     exact k_then ⟨(e8_j30_1, x13.1, x13.2.1, x13.2.2.1, a2_14, c2_14, B6_14), ⟨rfl, rfl, rfl, rfl, rfl, rfl, rfl, rfl, rfl, rfl, trivial⟩, h, hev, hms, hfr, hs_p1, hs_p2, hs_p3, hs_p4, hf7_2, hf7_1, hf14_1, hf14_2, hf14_3, hj23_l21⟩
   rintro ⟨e8_j46_1, d15_j46, d16_j46, d17_j46, a16_j46, c16_j46, B17_j46⟩ J wj46 ⟨h, hev, hms, hfr, hs_p1, hs_p2, hs_p3, hs_p4, hf7_2, hf7_1, hf14_1, hf14_2, hf14_3, hj23_l21⟩
   refine c_sp ?_
   refine x_u 6 [(95, .slice a0_14 (d15_j46).length c0_14), (96, .slice a16_j46 (d16_j46).length c16_j46), (97, .slice a4_14 (d17_j46).length c4_14), (98, .slice a23_j30 (d23_j30).length c23_j30), (99, Vp b0_7 0), (100, .slice a4_14 (d17_j46).length c4_14)] ?_
   refine x_len (vs := [.slice a4_14 (d17_j46).length c4_14]) (Vi ((d17_j46).length : Int)) rfl rfl rfl (reads_len tsl26 _ _ _ _ _) ?_
   refine x_u 1 [(102, Vi (IntKind.i64.wrap (((d17_j46).length : Int) + 2)))] ?_
   obtain ⟨x77, hx, h⟩ := bind_some h
   have hpk : MS wj46 ([[b0_7]] ++ [blk a0_14, blk a16_j46, B17_j46, blk a23_j30, M]) := hms.pick [some 0, some 1, some 2, some 3, some 4, some 5] _ rfl
   have hsb0 : ∀ x ∈ fl ([[b0_7]] ++ [blk a0_14, blk a16_j46, B17_j46, blk a23_j30, M]), x ∈ fl [[b0_7], blk a0_14, blk a16_j46, B17_j46, blk a23_j30, M] := pick_sub [some 0, some 1, some 2, some 3, some 4, some 5] _ rfl
   have hsb : ∀ x ∈ fl ([[b0_7]] ++ [(fl [blk a0_14, blk a16_j46, B17_j46, blk a23_j30, M])]), x ∈ fl [[b0_7], blk a0_14, blk a16_j46, B17_j46, blk a23_j30, M] := fun x hx => hsb0 x (fl_unfold x hx)
   have hcall := gen_Maker_Next_w b0_7 a1_7 c1_7 x6.1 e8_j46_1 (IntKind.i64.wrap (((d17_j46).length : Int) + 2)) _ wj46 (fl [blk a0_14, blk a16_j46, B17_j46, blk a23_j30, M]) (hpk.fold (P := [[b0_7]])) (hf7_2.sub hsb) hf7_1 hx
   refine x_call 14 #[] #[] [Vp b0_7 0, Vi (IntKind.i64.wrap (((d17_j46).length : Int) + 2))] _ rfl rfl rfl rfl hcall ?_
   rintro v w78 ⟨rfl, he78, hp78_0⟩
   clear hcall hx
   refine inl1 ?_
   have hpk2 : MS wj46 ([[b0_7]] ++ [blk a0_14, blk a16_j46, B17_j46, blk a23_j30, M]) := hms.pick [some 0, some 1, some 2, some 3, some 4, some 5] _ rfl
   have hsb2 : ∀ x ∈ fl ([[b0_7]] ++ [blk a0_14, blk a16_j46, B17_j46, blk a23_j30, M]), x ∈ fl [[b0_7], blk a0_14, blk a16_j46, B17_j46, blk a23_j30, M] := pick_sub [some 0, some 1, some 2, some 3, some 4, some 5] _ rfl
   have hst0 := Stp.call (LS := [[b0_7], blk a0_14, blk a16_j46, B17_j46, blk a23_j30, M]) (res := []) (par := [[b0_7]]) (R := [blk a0_14, blk a16_j46, B17_j46, blk a23_j30, M]) he78 (fun b hb => hsb2 b (fl_left' (P := [[b0_7]]) b hb)) (FR.nil _) (NP.init _ _) (fun x hx => hsb2 x (fl_right' (P := [[b0_7]]) x hx))
   have hsn : ∀ x ∈ fl [[b0_7], blk a0_14, blk a16_j46, B17_j46, blk a23_j30, M], x ∈ fl ([] ++ ([[b0_7]] ++ [blk a0_14, blk a16_j46, B17_j46, blk a23_j30, M])) := pick_sub [some 0, some 1, some 2, some 3, some 4, some 5] _ rfl
   have hst := hst0.res hsn
   replace hs_p1 := hs_p1.step hst
   replace hs_p2 := hs_p2.step hst
   replace hs_p3 := hs_p3.step hst
   replace hs_p4 := hs_p4.step hst
   replace hf7_2 := hf7_2.step hst
   replace hf14_1 := hf14_1.step hst he78 (MS.outs (P := [[b0_7]]) hpk2 0 rfl)
   replace hf14_2 := hf14_2.step hst he78 (MS.outs (P := [[b0_7]]) hpk2 1 rfl)
   replace hf14_3 := hf14_3.step (plain_int _) he78 (MS.outs (P := [[b0_7]]) hpk2 2 rfl)
   replace hj23_l21 := hj23_l21.step hst he78 (MS.outs (P := [[b0_7]]) hpk2 3 rfl)
   replace hms := hms.ev he78
   have hPf : ∀ b ∈ fl [[b0_7]], w.heap.size ≤ b := FR.mem (ls := [[b0_7]]) (hfr.pick [some 0] _ rfl)
   replace hev := hev.then he78 (fun b hb => .inr (hPf b hb))
   replace hf7_1 := hp78_0
   clear hpk hsb hsb0 hpk2 hsb2 hst0 hsn hst
   refine x_u 3 [(104, Vi (IntKind.i64.wrap (x77.1 - 1))), (105, Vp b0_7 0), (106, .slice a4_14 (d17_j46).length c4_14)] ?_
   refine x_len (vs := [.slice a4_14 (d17_j46).length c4_14]) (Vi ((d17_j46).length : Int)) rfl rfl rfl (reads_len tsl26 _ _ _ _ _) ?_
   refine x_u 1 [(108, Vi (IntKind.i64.wrap (((d17_j46).length : Int) + 2)))] ?_
   obtain ⟨x79, hx, h⟩ := bind_some h
   have hpk : MS w78 ([[b0_7]] ++ [blk a0_14, blk a16_j46, B17_j46, blk a23_j30, M]) := hms.pick [some 0, some 1, some 2, some 3, some 4, some 5] _ rfl
   have hsb0 : ∀ x ∈ fl ([[b0_7]] ++ [blk a0_14, blk a16_j46, B17_j46, blk a23_j30, M]), x ∈ fl [[b0_7], blk a0_14, blk a16_j46, B17_j46, blk a23_j30, M] := pick_sub [some 0, some 1, some 2, some 3, some 4, some 5] _ rfl
   have hsb : ∀ x ∈ fl ([[b0_7]] ++ [(fl [blk a0_14, blk a16_j46, B17_j46, blk a23_j30, M])]), x ∈ fl [[b0_7], blk a0_14, blk a16_j46, B17_j46, blk a23_j30, M] := fun x hx => hsb0 x (fl_unfold x hx)
   have hcall := gen_Maker_Next_w b0_7 a1_7 c1_7 x6.1 x77.2 (IntKind.i64.wrap (((d17_j46).length : Int) + 2)) _ w78 (fl [blk a0_14, blk a16_j46, B17_j46, blk a23_j30, M]) (hpk.fold (P := [[b0_7]])) (hf7_2.sub hsb) hf7_1 hx
   refine x_call 14 #[] #[] [Vp b0_7 0, Vi (IntKind.i64.wrap (((d17_j46).length : Int) + 2))] _ rfl rfl rfl rfl hcall ?_
   rintro v w80 ⟨rfl, he80, hp80_0⟩
   clear hcall hx
   refine inl1 ?_
   have hpk2 : MS w78 ([[b0_7]] ++ [blk a0_14, blk a16_j46, B17_j46, blk a23_j30, M]) := hms.pick [some 0, some 1, some 2, some 3, some 4, some 5] _ rfl
   have hsb2 : ∀ x ∈ fl ([[b0_7]] ++ [blk a0_14, blk a16_j46, B17_j46, blk a23_j30, M]), x ∈ fl [[b0_7], blk a0_14, blk a16_j46, B17_j46, blk a23_j30, M] := pick_sub [some 0, some 1, some 2, some 3, some 4, some 5] _ rfl
   have hst0 := Stp.call (LS := [[b0_7], blk a0_14, blk a16_j46, B17_j46, blk a23_j30, M]) (res := []) (par := [[b0_7]]) (R := [blk a0_14, blk a16_j46, B17_j46, blk a23_j30, M]) he80 (fun b hb => hsb2 b (fl_left' (P := [[b0_7]]) b hb)) (FR.nil _) (NP.init _ _) (fun x hx => hsb2 x (fl_right' (P := [[b0_7]]) x hx))
   have hsn : ∀ x ∈ fl [[b0_7], blk a0_14, blk a16_j46, B17_j46, blk a23_j30, M], x ∈ fl ([] ++ ([[b0_7]] ++ [blk a0_14, blk a16_j46, B17_j46, blk a23_j30, M])) := pick_sub [some 0, some 1, some 2, some 3, some 4, some 5] _ rfl
   have hst := hst0.res hsn
   replace hs_p1 := hs_p1.step hst
   replace hs_p2 := hs_p2.step hst
   replace hs_p3 := hs_p3.step hst
   replace hs_p4 := hs_p4.step hst
   replace hf7_2 := hf7_2.step hst
   replace hf14_1 := hf14_1.step hst he80 (MS.outs (P := [[b0_7]]) hpk2 0 rfl)
   replace hf14_2 := hf14_2.step hst he80 (MS.outs (P := [[b0_7]]) hpk2 1 rfl)
   replace hf14_3 := hf14_3.step (plain_int _) he80 (MS.outs (P := [[b0_7]]) hpk2 2 rfl)
   replace hj23_l21 := hj23_l21.step hst he80 (MS.outs (P := [[b0_7]]) hpk2 3 rfl)
   replace hms := hms.ev he80
   have hPf : ∀ b ∈ fl [[b0_7]], w.heap.size ≤ b := FR.mem (ls := [[b0_7]]) (hfr.pick [some 0] _ rfl)
   replace hev := hev.then he80 (fun b hb => .inr (hPf b hb))
   replace hf7_1 := hp80_0
   clear hpk hsb hsb0 hpk2 hsb2 hst0 hsn hst
   refine x_u 2 [(110, Vi (IntKind.i64.wrap (x79.1 - 1))), (111, Vp b0_7 0)] ?_
   obtain ⟨x81, hx, h⟩ := bind_some h
   have hpk : MS w80 ([[b0_7]] ++ [blk a0_14, blk a16_j46, B17_j46, blk a23_j30, M]) := hms.pick [some 0, some 1, some 2, some 3, some 4, some 5] _ rfl
   have hsb0 : ∀ x ∈ fl ([[b0_7]] ++ [blk a0_14, blk a16_j46, B17_j46, blk a23_j30, M]), x ∈ fl [[b0_7], blk a0_14, blk a16_j46, B17_j46, blk a23_j30, M] := pick_sub [some 0, some 1, some 2, some 3, some 4, some 5] _ rfl
   have hsb : ∀ x ∈ fl ([[b0_7]] ++ [(fl [blk a0_14, blk a16_j46, B17_j46, blk a23_j30, M])]), x ∈ fl [[b0_7], blk a0_14, blk a16_j46, B17_j46, blk a23_j30, M] := fun x hx => hsb0 x (fl_unfold x hx)
   have hcall := gen_Maker_Next_w b0_7 a1_7 c1_7 x6.1 x79.2 6 _ w80 (fl [blk a0_14, blk a16_j46, B17_j46, blk a23_j30, M]) (hpk.fold (P := [[b0_7]])) (hf7_2.sub hsb) hf7_1 hx
   refine x_call 14 #[] #[] [Vp b0_7 0, Vi 6] _ rfl rfl rfl rfl hcall ?_
   rintro v w82 ⟨rfl, he82, hp82_0⟩
   clear hcall hx
   refine inl1 ?_
   have hpk2 : MS w80 ([[b0_7]] ++ [blk a0_14, blk a16_j46, B17_j46, blk a23_j30, M]) := hms.pick [some 0, some 1, some 2, some 3, some 4, some 5] _ rfl
   have hsb2 : ∀ x ∈ fl ([[b0_7]] ++ [blk a0_14, blk a16_j46, B17_j46, blk a23_j30, M]), x ∈ fl [[b0_7], blk a0_14, blk a16_j46, B17_j46, blk a23_j30, M] := pick_sub [some 0, some 1, some 2, some 3, some 4, some 5] _ rfl
   have hst0 := Stp.call (LS := [[b0_7], blk a0_14, blk a16_j46, B17_j46, blk a23_j30, M]) (res := []) (par := [[b0_7]]) (R := [blk a0_14, blk a16_j46, B17_j46, blk a23_j30, M]) he82 (fun b hb => hsb2 b (fl_left' (P := [[b0_7]]) b hb)) (FR.nil _) (NP.init _ _) (fun x hx => hsb2 x (fl_right' (P := [[b0_7]]) x hx))
   have hsn : ∀ x ∈ fl [[b0_7], blk a0_14, blk a16_j46, B17_j46, blk a23_j30, M], x ∈ fl ([] ++ ([[b0_7]] ++ [blk a0_14, blk a16_j46, B17_j46, blk a23_j30, M])) := pick_sub [some 0, some 1, some 2, some 3, some 4, some 5] _ rfl
   have hst := hst0.res hsn
   replace hs_p1 := hs_p1.step hst
   replace hs_p2 := hs_p2.step hst
   replace hs_p3 := hs_p3.step hst
   replace hs_p4 := hs_p4.step hst
   replace hf7_2 := hf7_2.step hst
   replace hf14_1 := hf14_1.step hst he82 (MS.outs (P := [[b0_7]]) hpk2 0 rfl)
   replace hf14_2 := hf14_2.step hst he82 (MS.outs (P := [[b0_7]]) hpk2 1 rfl)
   replace hf14_3 := hf14_3.step (plain_int _) he82 (MS.outs (P := [[b0_7]]) hpk2 2 rfl)
   replace hj23_l21 := hj23_l21.step hst he82 (MS.outs (P := [[b0_7]]) hpk2 3 rfl)
   replace hms := hms.ev he82
   have hPf : ∀ b ∈ fl [[b0_7]], w.heap.size ≤ b := FR.mem (ls := [[b0_7]]) (hfr.pick [some 0] _ rfl)
   replace hev := hev.then he82 (fun b hb => .inr (hPf b hb))
   replace hf7_1 := hp82_0
   clear hpk hsb hsb0 hpk2 hsb2 hst0 hsn hst
   refine x_u 1 [(113, Vi (IntKind.i64.wrap (x81.1 - 1)))] ?_
   obtain ⟨x83, hx, h⟩ := bind_some h
   have hpk : MS w82 ([] ++ [[b0_7], M]) := hms.pick [some 0, some 5] _ rfl
   have hsb0 : ∀ x ∈ fl ([] ++ [[b0_7], M]), x ∈ fl [[b0_7], blk a0_14, blk a16_j46, B17_j46, blk a23_j30, M] := pick_sub [some 0, some 5] _ rfl
   have hsb : ∀ x ∈ fl ([] ++ [(fl [[b0_7], M])]), x ∈ fl [[b0_7], blk a0_14, blk a16_j46, B17_j46, blk a23_j30, M] := fun x hx => hsb0 x (fl_unfold x hx)
   have hcall := law42_exact_w a0_14 c0_14 d15_j46 a16_j46 c16_j46 d16_j46 a4_14 c4_14 d17_j46 a23_j30 c23_j30 d23_j30 (IntKind.i64.wrap (x77.1 - 1)) (IntKind.i64.wrap (x79.1 - 1)) (IntKind.i64.wrap (x81.1 - 1)) _ w82 (fl [[b0_7], M]) (MS.fold (P := []) hpk) (hf14_1.ro hsb (fun b hb hb2 => pick_out hms 1 rfl [some 0, some 5] ([] ++ [[b0_7], M]) rfl rfl b hb (fl_unfold b hb2))) (hf14_2.ro hsb (fun b hb hb2 => pick_out hms 2 rfl [some 0, some 5] ([] ++ [[b0_7], M]) rfl rfl b hb (fl_unfold b hb2))) (OwnR.ro (plain_int _) hf14_3 (fun b hb hb2 => pick_out hms 3 rfl [some 0, some 5] ([] ++ [[b0_7], M]) rfl rfl b hb (fl_unfold b hb2))) (hj23_l21.ro hsb (fun b hb hb2 => pick_out hms 4 rfl [some 0, some 5] ([] ++ [[b0_7], M]) rfl rfl b hb (fl_unfold b hb2))) hx
   refine x_call 16 #[] #[] [.slice a0_14 (d15_j46).length c0_14, .slice a16_j46 (d16_j46).length c16_j46, .slice a4_14 (d17_j46).length c4_14, .slice a23_j30 (d23_j30).length c23_j30, Vi (IntKind.i64.wrap (x77.1 - 1)), Vi (IntKind.i64.wrap (x79.1 - 1)), Vi (IntKind.i64.wrap (x81.1 - 1))] _ rfl rfl rfl rfl hcall ?_
   rintro v w84 ⟨rfl, he84⟩
   clear hcall hx
   refine inl1 ?_
   have hst := Stp.ext (ls := [[b0_7], blk a0_14, blk a16_j46, B17_j46, blk a23_j30, M]) he84
   replace hs_p1 := hs_p1.step hst
   replace hs_p2 := hs_p2.step hst
   replace hs_p3 := hs_p3.step hst
   replace hs_p4 := hs_p4.step hst
   replace hf7_1 := he84.box hf7_1 nn
   replace hf7_2 := hf7_2.step hst
   replace hf14_1 := hf14_1.step hst he84 nn2
   replace hf14_2 := hf14_2.step hst he84 nn2
   replace hf14_3 := hf14_3.step (plain_int _) he84 nn2
   replace hj23_l21 := hj23_l21.step hst he84 nn2
   replace hms := hms.ev he84
   replace hev := hev.ext he84
   clear hpk hsb hsb0
   refine x_u 2 [(115, .bool (!x83)), (116, .bool (!x83))] ?_
   refine x_if 116 (!x83) rfl h (fun h => ?_) (fun h => ?_)
   · refine x_u 12 [(117, undef), (118, undef), (119, undef), (120, undef), (121, undef), (122, undef), (123, undef), (124, undef), (125, undef), (126, undef), (127, undef), (128, .bool true)] ?_
     refine x_ek ?_
     refine c_norm [(1, .slice a_p1 (p1).length c_p1), (2, .slice a_p2 (p2).length c_p2), (3, .slice a_p3 (p3).length c_p3), (4, .slice a_p4 (p4).length c_p4), (11, Vp b0_7 0), (12, Vi i_s12_l11), (128, .bool true)] ⟨rfl, rfl, rfl, rfl, rfl, rfl, rfl, trivial⟩ (fun J => ?_)
     refine c_true rfl ?_
     refine c_sp ?_
     refine x_u 1 [(10, .bool false)] ?_
     refine x_ek ?_
     refine c_ret ?_
     refine k_block_ret ?_
     refine k_then_ret ?_
     have hx := some_inj h
     subst hx
     have hy := some_inj hn11
     subst hy
     replace h := h11
     refine k_then_ret ?_
     refine k_block_ret ?_
     refine k_then_ret ?_
     refine r_ret (r_vals [.bool false] ⟨rfl, trivial⟩ ?_)
     have hx := some_inj h
     subst hx
     have hmr : MS w84 [M] := hms.pick [some 5] _ rfl
     have hsu : ∀ x ∈ fl [M], x ∈ fl [[b0_7], blk a0_14, blk a16_j46, B17_j46, blk a23_j30, M] := pick_sub [some 5] _ rfl
     exact ⟨rfl, hev⟩
   refine x_u 1 [(117, .slice a_p4 (p4).length c_p4)] ?_
   refine x_len (vs := [.slice a_p4 (p4).length c_p4]) (Vi ((p4).length : Int)) rfl rfl rfl (reads_len tsl41 _ _ _ _ _) ?_
   refine x_u 2 [(119, .bool (decide (((p4).length : Int) < 100))), (120, .bool (decide (((p4).length : Int) < 100)))] ?_
   refine x_if 120 (decide (((p4).length : Int) < 100)) rfl h (fun h => ?_) (fun h => ?_)
   · refine x_u 4 [(121, .slice a0_14 (d15_j46).length c0_14), (122, .slice a16_j46 (d16_j46).length c16_j46), (123, .slice a4_14 (d17_j46).length c4_14), (124, .slice a_p4 (p4).length c_p4)] ?_
     obtain ⟨x85, hx, h⟩ := bind_some h
     have hpk : MS w84 ([] ++ [[b0_7], blk a23_j30, M]) := hms.pick [some 0, some 4, some 5] _ rfl
     have hsb0 : ∀ x ∈ fl ([] ++ [[b0_7], blk a23_j30, M]), x ∈ fl [[b0_7], blk a0_14, blk a16_j46, B17_j46, blk a23_j30, M] := pick_sub [some 0, some 4, some 5] _ rfl
     have hsb : ∀ x ∈ fl ([] ++ [(fl [[b0_7], blk a23_j30, M])]), x ∈ fl [[b0_7], blk a0_14, blk a16_j46, B17_j46, blk a23_j30, M] := fun x hx => hsb0 x (fl_unfold x hx)
     have hcall := law42_exact_w a0_14 c0_14 d15_j46 a16_j46 c16_j46 d16_j46 a4_14 c4_14 d17_j46 a_p4 c_p4 p4 0 1 1 _ w84 (fl [[b0_7], blk a23_j30, M]) (MS.fold (P := []) hpk) (hf14_1.ro hsb (fun b hb hb2 => pick_out hms 1 rfl [some 0, some 4, some 5] ([] ++ [[b0_7], blk a23_j30, M]) rfl rfl b hb (fl_unfold b hb2))) (hf14_2.ro hsb (fun b hb hb2 => pick_out hms 2 rfl [some 0, some 4, some 5] ([] ++ [[b0_7], blk a23_j30, M]) rfl rfl b hb (fl_unfold b hb2))) (OwnR.ro (plain_int _) hf14_3 (fun b hb hb2 => pick_out hms 3 rfl [some 0, some 4, some 5] ([] ++ [[b0_7], blk a23_j30, M]) rfl rfl b hb (fl_unfold b hb2))) (hs_p4.sub hsb) hx
     refine x_call 16 #[] #[] [.slice a0_14 (d15_j46).length c0_14, .slice a16_j46 (d16_j46).length c16_j46, .slice a4_14 (d17_j46).length c4_14, .slice a_p4 (p4).length c_p4, Vi 0, Vi 1, Vi 1] _ rfl rfl rfl rfl hcall ?_
     rintro v w86 ⟨rfl, he86⟩
     clear hcall hx
     refine inl1 ?_
     have hst := Stp.ext (ls := [[b0_7], blk a0_14, blk a16_j46, B17_j46, blk a23_j30, M]) he86
     replace hs_p1 := hs_p1.step hst
     replace hs_p2 := hs_p2.step hst
     replace hs_p3 := hs_p3.step hst
     replace hs_p4 := hs_p4.step hst
     replace hf7_1 := he86.box hf7_1 nn
     replace hf7_2 := hf7_2.step hst
     replace hf14_1 := hf14_1.step hst he86 nn2
     replace hf14_2 := hf14_2.step hst he86 nn2
     replace hf14_3 := hf14_3.step (plain_int _) he86 nn2
     replace hj23_l21 := hj23_l21.step hst he86 nn2
     replace hms := hms.ev he86
     replace hev := hev.ext he86
     clear hpk hsb hsb0
     refine x_u 3 [(126, .bool (!x85)), (127, .bool (!x85)), (128, .bool (!x85))] ?_
     refine x_ek ?_
     refine c_norm [(1, .slice a_p1 (p1).length c_p1), (2, .slice a_p2 (p2).length c_p2), (3, .slice a_p3 (p3).length c_p3), (4, .slice a_p4 (p4).length c_p4), (11, Vp b0_7 0), (12, Vi i_s12_l11), (128, .bool (!x85))] ⟨rfl, rfl, rfl, rfl, rfl, rfl, rfl, trivial⟩ (fun J => ?_)
     refine c_if (!x85) rfl h (fun h => ?_) (fun h => ?_)
     · refine c_sp ?_
       refine x_u 1 [(10, .bool false)] ?_
       refine x_ek ?_
       refine c_ret ?_
       refine k_block_ret ?_
       refine k_then_ret ?_
       have hx := some_inj h
       subst hx
       have hy := some_inj hn11
       subst hy
       replace h := h11
       refine k_then_ret ?_
       refine k_block_ret ?_
       refine k_then_ret ?_
       refine r_ret (r_vals [.bool false] ⟨rfl, trivial⟩ ?_)
       have hx := some_inj h
       subst hx
       have hmr : MS w86 [M] := hms.pick [some 5] _ rfl
       have hsu : ∀ x ∈ fl [M], x ∈ fl [[b0_7], blk a0_14, blk a16_j46, B17_j46, blk a23_j30, M] := pick_sub [some 5] _ rfl
       exact ⟨rfl, hev⟩
     refine c_skip ?_
     refine k_block ?_
     refine k_then ?_
     refine c_plain ?_
     refine x_u 3 [(23, Vi i_s12_l11), (24, Vi (IntKind.i64.wrap (i_s12_l11 + 1))), (12, Vi (IntKind.i64.wrap (i_s12_l11 + 1)))] ?_
     refine x_end rfl ?_
     have hx := some_inj h
     subst hx
     have hpk : MS w86 [[b0_7], M] := hms.pick [some 0, some 5] _ rfl
     have hsu : ∀ x ∈ fl [[b0_7], M], x ∈ fl [[b0_7], blk a0_14, blk a16_j46, B17_j46, blk a23_j30, M] := pick_sub [some 0, some 5] _ rfl
     replace hs_p1 := hs_p1.sub hsu
     replace hs_p2 := hs_p2.sub hsu
     replace hs_p3 := hs_p3.sub hsu
     replace hs_p4 := hs_p4.sub hsu
     replace hf7_2 := hf7_2.sub hsu
     replace hms := hpk
     replace hfr : FR w.heap.size [[b0_7]] := hfr.pick [some 0] _ rfl
     clear hpk hsu
     exact k_then ⟨(m11, x81.2, IntKind.i64.wrap (i_s12_l11 + 1)), ⟨rfl, rfl, rfl, rfl, rfl, rfl, trivial⟩, ⟨hn11, hev, hms, hfr, hs_p1, hs_p2, hs_p3, hs_p4, hf7_2, hf7_1⟩, Nat.lt_succ_self _⟩
   refine x_u 8 [(121, undef), (122, undef), (123, undef), (124, undef), (125, undef), (126, undef), (127, .bool false), (128, .bool false)] ?_
   refine x_ek ?_
   refine c_norm [(1, .slice a_p1 (p1).length c_p1), (2, .slice a_p2 (p2).length c_p2), (3, .slice a_p3 (p3).length c_p3), (4, .slice a_p4 (p4).length c_p4), (11, Vp b0_7 0), (12, Vi i_s12_l11), (128, .bool false)] ⟨rfl, rfl, rfl, rfl, rfl, rfl, rfl, trivial⟩ (fun J => ?_)
   refine c_false rfl ?_
   refine c_skip ?_
   refine k_block ?_
   refine k_then ?_
   refine c_plain ?_
   refine x_u 3 [(23, Vi i_s12_l11), (24, Vi (IntKind.i64.wrap (i_s12_l11 + 1))), (12, Vi (IntKind.i64.wrap (i_s12_l11 + 1)))] ?_
   refine x_end rfl ?_
   have hx := some_inj h
   subst hx
   have hpk : MS w84 [[b0_7], M] := hms.pick [some 0, some 5] _ rfl
   have hsu : ∀ x ∈ fl [[b0_7], M], x ∈ fl [[b0_7], blk a0_14, blk a16_j46, B17_j46, blk a23_j30, M] := pick_sub [some 0, some 5] _ rfl
   replace hs_p1 := hs_p1.sub hsu
   replace hs_p2 := hs_p2.sub hsu
   replace hs_p3 := hs_p3.sub hsu
   replace hs_p4 := hs_p4.sub hsu
   replace hf7_2 := hf7_2.sub hsu
   replace hms := hpk
   replace hfr : FR w.heap.size [[b0_7]] := hfr.pick [some 0] _ rfl
   clear hpk hsu
   exact k_then ⟨(m11, x81.2, IntKind.i64.wrap (i_s12_l11 + 1)), ⟨rfl, rfl, rfl, rfl, rfl, rfl, trivial⟩, ⟨hn11, hev, hms, hfr, hs_p1, hs_p2, hs_p3, hs_p4, hf7_2, hf7_1⟩, Nat.lt_succ_self _⟩
 refine c_exit ?_
 refine k_then_exit ?_
 have hx := some_inj h
 subst hx
 have hy := some_inj hn11
 subst hy
 replace h := h11
 refine k_then_exit ?_
 refine k_block_in ?_
 refine k_then ?_
 refine c_norm [(1, .slice a_p1 (p1).length c_p1), (2, .slice a_p2 (p2).length c_p2), (3, .slice a_p3 (p3).length c_p3), (4, .slice a_p4 (p4).length c_p4), (11, Vp b0_7 0)] ⟨rfl, rfl, rfl, rfl, rfl, trivial⟩ (fun J => ?_)
 refine c_seq ?_
 refine c_join (σ := Bool) (fun s => match s with | t146__s146_j88 => [(1, .slice a_p1 (p1).length c_p1), (2, .slice a_p2 (p2).length c_p2), (3, .slice a_p3 (p3).length c_p3), (4, .slice a_p4 (p4).length c_p4), (11, Vp b0_7 0), (146, .bool t146__s146_j88)]) (fun s w' => match s with | t146__s146_j88 => law42_InventoryExact_J88 p1 p2 p3 p4 x6 e8_l11_1 t146__s146_j88 = some r ∧ Ev [] w w' ∧ MS w' [[b0_7], M] ∧ FR w.heap.size [[b0_7]] ∧ SlR (eProd eStr (eInt .i64)) w' (fl [[b0_7], M]) a_p1 c_p1 p1 ∧ SlR (eInt .i64) w' (fl [[b0_7], M]) a_p2 c_p2 p2 ∧ SlR (eSl (eInt .i64)) w' (fl [[b0_7], M]) a_p3 c_p3 p3 ∧ SlR (eProd (eInt .i64) (eProd (eInt .i64) (eProd (eInt .i64) eBool))) w' (fl [[b0_7], M]) a_p4 c_p4 p4 ∧ SlR (eInt .i64) w' (fl [[b0_7], M]) a1_7 c1_7 x6.1 ∧ w'.heap[b0_7]? = some (.cells #[.slice a1_7 (x6.1).length c1_7, Vi e8_l11_1] 52 (0, 0))) ?_ ?_
 · refine c_plain ?_
   refine x_u 1 [(129, .slice a_p1 (p1).length c_p1)] ?_
   refine x_len (vs := [.slice a_p1 (p1).length c_p1]) (Vi ((p1).length : Int)) rfl rfl rfl (reads_len tsl25 _ _ _ _ _) ?_
   refine x_u 2 [(131, .bool (decide (((p1).length : Int) > 40))), (132, .bool (decide (((p1).length : Int) > 40)))] ?_
   refine x_if 132 (decide (((p1).length : Int) > 40)) rfl h (fun h => ?_) (fun h => ?_)
   · refine x_u 14 [(133, undef), (134, undef), (135, undef), (136, .bool true), (137, .bool true), (138, undef), (139, undef), (140, undef), (141, .bool true), (142, .bool true), (143, undef), (144, undef), (145, undef), (146, .bool true)] ?_
     refine x_end rfl ?_
     exact k_then ⟨true, ⟨rfl, rfl, rfl, rfl, rfl, rfl, trivial⟩, h, hev, hms, hfr, hs_p1, hs_p2, hs_p3, hs_p4, hf7_2, hf7_1⟩
   refine x_u 1 [(133, .slice a_p2 (p2).length c_p2)] ?_
   refine x_len (vs := [.slice a_p2 (p2).length c_p2]) (Vi ((p2).length : Int)) rfl rfl rfl (reads_len tsl22 _ _ _ _ _) ?_
   refine x_u 3 [(135, .bool (decide (((p2).length : Int) > 250))), (136, .bool (decide (((p2).length : Int) > 250))), (137, .bool (decide (((p2).length : Int) > 250)))] ?_
   refine x_if 137 (decide (((p2).length : Int) > 250)) rfl h (fun h => ?_) (fun h => ?_)
   · refine x_u 9 [(138, undef), (139, undef), (140, undef), (141, .bool true), (142, .bool true), (143, undef), (144, undef), (145, undef), (146, .bool true)] ?_
     refine x_end rfl ?_
     exact k_then ⟨true, ⟨rfl, rfl, rfl, rfl, rfl, rfl, trivial⟩, h, hev, hms, hfr, hs_p1, hs_p2, hs_p3, hs_p4, hf7_2, hf7_1⟩
   refine x_u 1 [(138, .slice a_p3 (p3).length c_p3)] ?_
   refine x_len (vs := [.slice a_p3 (p3).length c_p3]) (Vi ((p3).length : Int)) rfl rfl rfl (reads_len tsl26 _ _ _ _ _) ?_
   refine x_u 3 [(140, .bool (decide (((p3).length : Int) > 40))), (141, .bool (decide (((p3).length : Int) > 40))), (142, .bool (decide (((p3).length : Int) > 40)))] ?_
   refine x_if 142 (decide (((p3).length : Int) > 40)) rfl h (fun h => ?_) (fun h => ?_)
   · refine x_u 4 [(143, undef), (144, undef), (145, undef), (146, .bool true)] ?_
     refine x_end rfl ?_
     exact k_then ⟨true, ⟨rfl, rfl, rfl, rfl, rfl, rfl, trivial⟩, h, hev, hms, hfr, hs_p1, hs_p2, hs_p3, hs_p4, hf7_2, hf7_1⟩
   refine x_u 1 [(143, .slice a_p4 (p4).length c_p4)] ?_
   refine x_len (vs := [.slice a_p4 (p4).length c_p4]) (Vi ((p4).length : Int)) rfl rfl rfl (reads_len tsl41 _ _ _ _ _) ?_
   refine x_u 2 [(145, .bool (decide (((p4).length : Int) > 100))), (146, .bool (decide (((p4).length : Int) > 100)))] ?_
   refine x_end rfl ?_
   exact k_then ⟨decide (((p4).length : Int) > 100), ⟨rfl, rfl, rfl, rfl, rfl, rfl, trivial⟩, h, hev, hms, hfr, hs_p1, hs_p2, hs_p3, hs_p4, hf7_2, hf7_1⟩
 rintro t146__s146_j88 J wj88 ⟨h, hev, hms, hfr, hs_p1, hs_p2, hs_p3, hs_p4, hf7_2, hf7_1⟩
 refine c_if t146__s146_j88 rfl h (fun h => ?_) (fun h => ?_)
 · refine c_sp ?_
   obtain ⟨x89, hx, h⟩ := bind_some h
   have hcall := law42_sane_w _ wj88 hx
   refine x_call 13 #[] #[] [] _ rfl rfl rfl rfl hcall ?_
   rintro v w90 ⟨rfl, he90⟩
   clear hcall hx
   refine inl1 ?_
   have hst := Stp.ext (ls := [[b0_7], M]) he90
   replace hs_p1 := hs_p1.step hst
   replace hs_p2 := hs_p2.step hst
   replace hs_p3 := hs_p3.step hst
   replace hs_p4 := hs_p4.step hst
   replace hf7_1 := he90.box hf7_1 nn
   replace hf7_2 := hf7_2.step hst
   replace hms := hms.ev he90
   replace hev := hev.ext he90
   refine x_u 1 [(10, .bool x89)] ?_
   refine x_ek ?_
   refine c_norm [(10, .bool x89)] ⟨rfl, trivial⟩ (fun J => ?_)
   refine c_ret ?_
   refine k_then_ret ?_
   refine r_ret (r_vals [.bool x89] ⟨rfl, trivial⟩ ?_)
   have hx := some_inj h
   subst hx
   have hmr : MS w90 [M] := hms.pick [some 1] _ rfl
   have hsu : ∀ x ∈ fl [M], x ∈ fl [[b0_7], M] := pick_sub [some 1] _ rfl
   exact ⟨rfl, hev⟩
 refine c_skip ?_
 refine k_then ?_
 refine c_norm [(1, .slice a_p1 (p1).length c_p1), (2, .slice a_p2 (p2).length c_p2), (3, .slice a_p3 (p3).length c_p3), (4, .slice a_p4 (p4).length c_p4), (11, Vp b0_7 0)] ⟨rfl, rfl, rfl, rfl, rfl, trivial⟩ (fun J => ?_)
 refine c_seq ?_
 refine c_sp ?_
 refine x_u 1 [(18, Vi 0)] ?_
 refine x_ek ?_
 refine c_block ?_
 obtain ⟨d92, hd92, h92⟩ := bind_some h
 obtain ⟨m92, hd92⟩ := loop_some hd92
 refine c_loop (loop_rule hmx (σ := Nat × Int) (fun s => match s with | (_, i_s18_l92) => [(1, .slice a_p1 (p1).length c_p1), (2, .slice a_p2 (p2).length c_p2), (3, .slice a_p3 (p3).length c_p3), (4, .slice a_p4 (p4).length c_p4), (11, Vp b0_7 0), (18, Vi i_s18_l92)]) (fun s w' => match s with | (m, i_s18_l92) => loopN (law42_InventoryExact_L92 p3) m i_s18_l92 = some d92 ∧ Ev [] w w' ∧ MS w' [[b0_7], M] ∧ FR w.heap.size [[b0_7]] ∧ SlR (eProd eStr (eInt .i64)) w' (fl [[b0_7], M]) a_p1 c_p1 p1 ∧ SlR (eInt .i64) w' (fl [[b0_7], M]) a_p2 c_p2 p2 ∧ SlR (eSl (eInt .i64)) w' (fl [[b0_7], M]) a_p3 c_p3 p3 ∧ SlR (eProd (eInt .i64) (eProd (eInt .i64) (eProd (eInt .i64) eBool))) w' (fl [[b0_7], M]) a_p4 c_p4 p4 ∧ SlR (eInt .i64) w' (fl [[b0_7], M]) a1_7 c1_7 x6.1 ∧ w'.heap[b0_7]? = some (.cells #[.slice a1_7 (x6.1).length c1_7, Vi e8_l11_1] 52 (0, 0))) (fun s => s.1) (m92, 0) ⟨rfl, rfl, rfl, rfl, rfl, rfl, trivial⟩ ⟨hd92, hev, hms, hfr, hs_p1, hs_p2, hs_p3, hs_p4, hf7_2, hf7_1⟩ ?_)
 rintro ⟨m92, i_s18_l92⟩ J wl92 ⟨hn92, hev, hms, hfr, hs_p1, hs_p2, hs_p3, hs_p4, hf7_2, hf7_1⟩
 rcases m92 with _ | m92
 · exact (loopN_zero hn92).elim
 obtain ⟨t92, h, hn92⟩ := bind_some hn92
 refine c_seq ?_
 refine c_sp ?_
 refine x_u 2 [(148, Vi i_s18_l92), (149, .slice a_p3 (p3).length c_p3)] ?_
 refine x_len (vs := [.slice a_p3 (p3).length c_p3]) (Vi ((p3).length : Int)) rfl rfl rfl (reads_len tsl26 _ _ _ _ _) ?_
 refine x_u 1 [(151, .bool (decide (i_s18_l92 < ((p3).length : Int))))] ?_
 refine x_ek ?_
 refine c_norm [(1, .slice a_p1 (p1).length c_p1), (2, .slice a_p2 (p2).length c_p2), (3, .slice a_p3 (p3).length c_p3), (4, .slice a_p4 (p4).length c_p4), (11, Vp b0_7 0), (18, Vi i_s18_l92), (151, .bool (decide (i_s18_l92 < ((p3).length : Int))))] ⟨rfl, rfl, rfl, rfl, rfl, rfl, rfl, trivial⟩ (fun J => ?_)
 refine c_if (decide (i_s18_l92 < ((p3).length : Int))) rfl h (fun h => ?_) (fun h => ?_)
 · refine c_skip ?_
   refine k_then ?_
   refine c_seq ?_
   refine c_block ?_
   refine c_sp ?_
   refine x_u 2 [(154, .slice a_p3 (p3).length c_p3), (155, Vi i_s18_l92)] ?_
   obtain ⟨x94, hx94, h⟩ := bind_some h
   obtain ⟨ad94, cs94, hr94, hc94, hR⟩ := reads_index (Mo := []) tsl26 hs_p3 hx94
   obtain ⟨a95, c95, rfl, hs95⟩ := hR
   refine x_indexAddr (xv := .slice a_p3 (p3).length c_p3) (yv := Vi i_s18_l92) (.pointer (some ad94)) rfl rfl rfl rfl hr94 ?_
   refine x_load (xv := .pointer (some ad94)) (.slice a95 (x94).length c95) rfl rfl rfl (reads_cell0 tcell22 hc94 (fun _ h => by cases h)) ?_
   refine x_len (vs := [.slice a95 (x94).length c95]) (Vi ((x94).length : Int)) rfl rfl rfl (reads_len tsl22 _ _ _ _ _) ?_
   refine x_u 1 [(159, .bool (decide (((x94).length : Int) > 300)))] ?_
   refine x_ek ?_
   refine c_if (decide (((x94).length : Int) > 300)) rfl h (fun h => ?_) (fun h => ?_)
   · refine c_sp ?_
     obtain ⟨x98, hx, h⟩ := bind_some h
     have hcall := law42_sane_w _ wl92 hx
     refine x_call 13 #[] #[] [] _ rfl rfl rfl rfl hcall ?_
     rintro v w99 ⟨rfl, he99⟩
     clear hcall hx
     refine inl1 ?_
     have hst := Stp.ext (ls := [[b0_7], M]) he99
     replace hs_p1 := hs_p1.step hst
     replace hs_p2 := hs_p2.step hst
     replace hs_p3 := hs_p3.step hst
     replace hs_p4 := hs_p4.step hst
     replace hf7_1 := he99.box hf7_1 nn
     replace hf7_2 := hf7_2.step hst
     replace hms := hms.ev he99
     replace hev := hev.ext he99
     refine x_u 1 [(10, .bool x98)] ?_
     refine x_ek ?_
     refine c_ret ?_
     refine k_block_ret ?_
     refine k_then_ret ?_
     have hx := some_inj h
     subst hx
     have hy := some_inj hn92
     subst hy
     replace h := h92
     refine k_then_ret ?_
     refine k_block_ret ?_
     refine k_then_ret ?_
     refine r_ret (r_vals [.bool x98] ⟨rfl, trivial⟩ ?_)
     have hx := some_inj h
     subst hx
     have hmr : MS w99 [M] := hms.pick [some 1] _ rfl
     have hsu : ∀ x ∈ fl [M], x ∈ fl [[b0_7], M] := pick_sub [some 1] _ rfl
     exact ⟨rfl, hev⟩
   refine c_skip ?_
   refine k_block ?_
   refine k_then ?_
   refine c_plain ?_
   refine x_u 3 [(152, Vi i_s18_l92), (153, Vi (IntKind.i64.wrap (i_s18_l92 + 1))), (18, Vi (IntKind.i64.wrap (i_s18_l92 + 1)))] ?_
   refine x_end rfl ?_
   have hx := some_inj h
   subst hx
   exact k_then ⟨(m92, IntKind.i64.wrap (i_s18_l92 + 1)), ⟨rfl, rfl, rfl, rfl, rfl, rfl, trivial⟩, ⟨hn92, hev, hms, hfr, hs_p1, hs_p2, hs_p3, hs_p4, hf7_2, hf7_1⟩, Nat.lt_succ_self _⟩
 refine c_exit ?_
 refine k_then_exit ?_
 have hx := some_inj h
 subst hx
 have hy := some_inj hn92
 subst hy
 replace h := h92
 refine k_then_exit ?_
 refine k_block_in ?_
 refine k_then ?_
 refine c_norm [(1, .slice a_p1 (p1).length c_p1), (2, .slice a_p2 (p2).length c_p2), (3, .slice a_p3 (p3).length c_p3), (4, .slice a_p4 (p4).length c_p4), (11, Vp b0_7 0)] ⟨rfl, rfl, rfl, rfl, rfl, trivial⟩ (fun J => ?_)
 refine c_sp ?_
 refine x_u 5 [(161, .slice a_p1 (p1).length c_p1), (162, .slice a_p2 (p2).length c_p2), (163, .slice a_p3 (p3).length c_p3), (164, .slice a_p4 (p4).length c_p4), (165, Vp b0_7 0)] ?_
 obtain ⟨x100, hx, h⟩ := bind_some h
 have hpk : MS wl92 ([[b0_7]] ++ [M]) := hms.pick [some 0, some 1] _ rfl
 have hsb0 : ∀ x ∈ fl ([[b0_7]] ++ [M]), x ∈ fl [[b0_7], M] := pick_sub [some 0, some 1] _ rfl
 have hsb : ∀ x ∈ fl ([[b0_7]] ++ [(fl [M])]), x ∈ fl [[b0_7], M] := fun x hx => hsb0 x (fl_unfold x hx)
 have hcall := gen_Maker_Next_w b0_7 a1_7 c1_7 x6.1 e8_l11_1 5 _ wl92 (fl [M]) (hpk.fold (P := [[b0_7]])) (hf7_2.sub hsb) hf7_1 hx
 refine x_call 14 #[] #[] [Vp b0_7 0, Vi 5] _ rfl rfl rfl rfl hcall ?_
 rintro v w101 ⟨rfl, he101, hp101_0⟩
 clear hcall hx
 refine inl1 ?_
 have hpk2 : MS wl92 ([[b0_7]] ++ [M]) := hms.pick [some 0, some 1] _ rfl
 have hsb2 : ∀ x ∈ fl ([[b0_7]] ++ [M]), x ∈ fl [[b0_7], M] := pick_sub [some 0, some 1] _ rfl
 have hst0 := Stp.call (LS := [[b0_7], M]) (res := []) (par := [[b0_7]]) (R := [M]) he101 (fun b hb => hsb2 b (fl_left' (P := [[b0_7]]) b hb)) (FR.nil _) (NP.init _ _) (fun x hx => hsb2 x (fl_right' (P := [[b0_7]]) x hx))
 have hsn : ∀ x ∈ fl [[b0_7], M], x ∈ fl ([] ++ ([[b0_7]] ++ [M])) := pick_sub [some 0, some 1] _ rfl
 have hst := hst0.res hsn
 replace hs_p1 := hs_p1.step hst
 replace hs_p2 := hs_p2.step hst
 replace hs_p3 := hs_p3.step hst
 replace hs_p4 := hs_p4.step hst
 replace hf7_2 := hf7_2.step hst
 replace hms := hms.ev he101
 have hPf : ∀ b ∈ fl [[b0_7]], w.heap.size ≤ b := FR.mem (ls := [[b0_7]]) (hfr.pick [some 0] _ rfl)
 replace hev := hev.then he101 (fun b hb => .inr (hPf b hb))
 replace hf7_1 := hp101_0
 clear hpk hsb hsb0 hpk2 hsb2 hst0 hsn hst
 refine x_u 2 [(167, Vi (IntKind.i64.wrap (x100.1 - 1))), (168, Vp b0_7 0)] ?_
 obtain ⟨x102, hx, h⟩ := bind_some h
 have hpk : MS w101 ([[b0_7]] ++ [M]) := hms.pick [some 0, some 1] _ rfl
 have hsb0 : ∀ x ∈ fl ([[b0_7]] ++ [M]), x ∈ fl [[b0_7], M] := pick_sub [some 0, some 1] _ rfl
 have hsb : ∀ x ∈ fl ([[b0_7]] ++ [(fl [M])]), x ∈ fl [[b0_7], M] := fun x hx => hsb0 x (fl_unfold x hx)
 have hcall := gen_Maker_Next_w b0_7 a1_7 c1_7 x6.1 x100.2 5 _ w101 (fl [M]) (hpk.fold (P := [[b0_7]])) (hf7_2.sub hsb) hf7_1 hx
 refine x_call 14 #[] #[] [Vp b0_7 0, Vi 5] _ rfl rfl rfl rfl hcall ?_
 rintro v w103 ⟨rfl, he103, hp103_0⟩
 clear hcall hx
 refine inl1 ?_
 have hpk2 : MS w101 ([[b0_7]] ++ [M]) := hms.pick [some 0, some 1] _ rfl
 have hsb2 : ∀ x ∈ fl ([[b0_7]] ++ [M]), x ∈ fl [[b0_7], M] := pick_sub [some 0, some 1] _ rfl
 have hst0 := Stp.call (LS := [[b0_7], M]) (res := []) (par := [[b0_7]]) (R := [M]) he103 (fun b hb => hsb2 b (fl_left' (P := [[b0_7]]) b hb)) (FR.nil _) (NP.init _ _) (fun x hx => hsb2 x (fl_right' (P := [[b0_7]]) x hx))
 have hsn : ∀ x ∈ fl [[b0_7], M], x ∈ fl ([] ++ ([[b0_7]] ++ [M])) := pick_sub [some 0, some 1] _ rfl
 have hst := hst0.res hsn
 replace hs_p1 := hs_p1.step hst
 replace hs_p2 := hs_p2.step hst
 replace hs_p3 := hs_p3.step hst
 replace hs_p4 := hs_p4.step hst
 replace hf7_2 := hf7_2.step hst
 replace hms := hms.ev he103
 have hPf : ∀ b ∈ fl [[b0_7]], w.heap.size ≤ b := FR.mem (ls := [[b0_7]]) (hfr.pick [some 0] _ rfl)
 replace hev := hev.then he103 (fun b hb => .inr (hPf b hb))
 replace hf7_1 := hp103_0
 clear hpk hsb hsb0 hpk2 hsb2 hst0 hsn hst
 refine x_u 2 [(170, Vi (IntKind.i64.wrap (x102.1 - 1))), (171, Vp b0_7 0)] ?_
 obtain ⟨x104, hx, h⟩ := bind_some h
 have hpk : MS w103 ([[b0_7]] ++ [M]) := hms.pick [some 0, some 1] _ rfl
 have hsb0 : ∀ x ∈ fl ([[b0_7]] ++ [M]), x ∈ fl [[b0_7], M] := pick_sub [some 0, some 1] _ rfl
 have hsb : ∀ x ∈ fl ([[b0_7]] ++ [(fl [M])]), x ∈ fl [[b0_7], M] := fun x hx => hsb0 x (fl_unfold x hx)
 have hcall := gen_Maker_Next_w b0_7 a1_7 c1_7 x6.1 x102.2 6 _ w103 (fl [M]) (hpk.fold (P := [[b0_7]])) (hf7_2.sub hsb) hf7_1 hx
 refine x_call 14 #[] #[] [Vp b0_7 0, Vi 6] _ rfl rfl rfl rfl hcall ?_
 rintro v w105 ⟨rfl, he105, hp105_0⟩
 clear hcall hx
 refine inl1 ?_
 have hpk2 : MS w103 ([[b0_7]] ++ [M]) := hms.pick [some 0, some 1] _ rfl
 have hsb2 : ∀ x ∈ fl ([[b0_7]] ++ [M]), x ∈ fl [[b0_7], M] := pick_sub [some 0, some 1] _ rfl
 have hst0 := Stp.call (LS := [[b0_7], M]) (res := []) (par := [[b0_7]]) (R := [M]) he105 (fun b hb => hsb2 b (fl_left' (P := [[b0_7]]) b hb)) (FR.nil _) (NP.init _ _) (fun x hx => hsb2 x (fl_right' (P := [[b0_7]]) x hx))
 have hsn : ∀ x ∈ fl [[b0_7], M], x ∈ fl ([] ++ ([[b0_7]] ++ [M])) := pick_sub [some 0, some 1] _ rfl
 have hst := hst0.res hsn
 replace hs_p1 := hs_p1.step hst
 replace hs_p2 := hs_p2.step hst
 replace hs_p3 := hs_p3.step hst
 replace hs_p4 := hs_p4.step hst
 replace hf7_2 := hf7_2.step hst
 replace hms := hms.ev he105
 have hPf : ∀ b ∈ fl [[b0_7]], w.heap.size ≤ b := FR.mem (ls := [[b0_7]]) (hfr.pick [some 0] _ rfl)
 replace hev := hev.then he105 (fun b hb => .inr (hPf b hb))
 replace hf7_1 := hp105_0
 clear hpk hsb hsb0 hpk2 hsb2 hst0 hsn hst
 refine x_u 1 [(173, Vi (IntKind.i64.wrap (x104.1 - 1)))] ?_
 obtain ⟨x106, hx, h⟩ := bind_some h
 have hpk : MS w105 ([] ++ [[b0_7], M]) := hms.pick [some 0, some 1] _ rfl
 have hsb0 : ∀ x ∈ fl ([] ++ [[b0_7], M]), x ∈ fl [[b0_7], M] := pick_sub [some 0, some 1] _ rfl
 have hsb : ∀ x ∈ fl ([] ++ [(fl [[b0_7], M])]), x ∈ fl [[b0_7], M] := fun x hx => hsb0 x (fl_unfold x hx)
 have hcall := law42_exact_w a_p1 c_p1 p1 a_p2 c_p2 p2 a_p3 c_p3 p3 a_p4 c_p4 p4 (IntKind.i64.wrap (x100.1 - 1)) (IntKind.i64.wrap (x102.1 - 1)) (IntKind.i64.wrap (x104.1 - 1)) _ w105 (fl [[b0_7], M]) (MS.fold (P := []) hpk) (hs_p1.sub hsb) (hs_p2.sub hsb) (hs_p3.sub hsb) (hs_p4.sub hsb) hx
 refine x_call 16 #[] #[] [.slice a_p1 (p1).length c_p1, .slice a_p2 (p2).length c_p2, .slice a_p3 (p3).length c_p3, .slice a_p4 (p4).length c_p4, Vi (IntKind.i64.wrap (x100.1 - 1)), Vi (IntKind.i64.wrap (x102.1 - 1)), Vi (IntKind.i64.wrap (x104.1 - 1))] _ rfl rfl rfl rfl hcall ?_
 rintro v w107 ⟨rfl, he107⟩
 clear hcall hx
 refine inl1 ?_
 have hst := Stp.ext (ls := [[b0_7], M]) he107
 replace hs_p1 := hs_p1.step hst
 replace hs_p2 := hs_p2.step hst
 replace hs_p3 := hs_p3.step hst
 replace hs_p4 := hs_p4.step hst
 replace hf7_1 := he107.box hf7_1 nn
 replace hf7_2 := hf7_2.step hst
 replace hms := hms.ev he107
 replace hev := hev.ext he107
 clear hpk hsb hsb0
 refine x_u 1 [(175, .bool x106)] ?_
 refine x_if 175 x106 rfl h (fun h => ?_) (fun h => ?_)
 · obtain ⟨x108, hx, h⟩ := bind_some h
   have hcall := law42_sane_w _ w107 hx
   refine x_call 13 #[] #[] [] _ rfl rfl rfl rfl hcall ?_
   rintro v w109 ⟨rfl, he109⟩
   clear hcall hx
   refine inl1 ?_
   have hst := Stp.ext (ls := [[b0_7], M]) he109
   replace hs_p1 := hs_p1.step hst
   replace hs_p2 := hs_p2.step hst
   replace hs_p3 := hs_p3.step hst
   replace hs_p4 := hs_p4.step hst
   replace hf7_1 := he109.box hf7_1 nn
   replace hf7_2 := hf7_2.step hst
   replace hms := hms.ev he109
   replace hev := hev.ext he109
   refine x_u 2 [(177, .bool x108), (10, .bool x108)] ?_
   refine x_ek ?_
   refine c_norm [(10, .bool x108)] ⟨rfl, trivial⟩ (fun J => ?_)
   refine c_ret ?_
   refine r_ret (r_vals [.bool x108] ⟨rfl, trivial⟩ ?_)
   have hx := some_inj h
   subst hx
   have hmr : MS w109 [M] := hms.pick [some 1] _ rfl
   have hsu : ∀ x ∈ fl [M], x ∈ fl [[b0_7], M] := pick_sub [some 1] _ rfl
   exact ⟨rfl, hev⟩
 refine x_u 3 [(176, undef), (177, .bool false), (10, .bool false)] ?_
 refine x_ek ?_
 refine c_norm [(10, .bool false)] ⟨rfl, trivial⟩ (fun J => ?_)
 refine c_ret ?_
 refine r_ret (r_vals [.bool false] ⟨rfl, trivial⟩ ?_)
 have hx := some_inj h
 subst hx
 have hmr : MS w107 [M] := hms.pick [some 1] _ rfl
 have hsu : ∀ x ∈ fl [M], x ∈ fl [[b0_7], M] := pick_sub [some 1] _ rfl
 exact ⟨rfl, hev⟩
end Go.Proofs.Ytgeceohdppecgaa
