
/- Walks, printed by program: each function returns what the partial function of the same name returns. Conditions: those of each theorem. -/
import Derived.Test.YtgeceohdppecgaaGT
import Derived.Test.YtgeceohdppecgaaGgen
import Derived.Test.YtgeceohdppecgaaGinventory
import Derived.Test.YtgeceohdppecgaaGr42
import Derived.Test.YtgeceohdppecgaaGyardgen
set_option linter.unusedVariables false
set_option linter.unusedSimpArgs false
set_option maxRecDepth 4000
namespace Go.Proofs.Ytgeceohdppecgaa
open Go Go.V Go.Proofs
def law42_exact_J21 (p0 : List ((List UInt8) × Int)) (p1 : List Int) (p2 : List (List Int)) (x5 : (List (List Int)) × Int × Int) (x8 : (List (List Int)) × Int × Int) (x11 : (List (Int × Int × Int × Bool)) × Int) (x14 : (List (Int × Int × Int × Bool)) × Int) (x17 : Int × Int) (x19 : Int × Int) : Option Bool :=
((inventory_Valid p0 p1 p2).bind fun x36 =>
((r42_Valid p0 p1 p2).bind fun x38 =>
(if (x36 == x38) = true then
((gen_Lists x5.1 x8.1).bind fun x40 =>
(if x40 = true then
(if (x5.2.1 == x8.2.1) = true then
(if (x5.2.2 == x8.2.2) = true then
((yardgen_SameShifts x11.1 x14.1).bind fun x42 =>
(if x42 = true then
(if (x11.2 == x14.2) = true then
(if (x17.1 == x19.1) = true then
some (x17.2 == x19.2)
else
some false)
else
some false)
else
some false))
else
some false)
else
some false)
else
some false))
else
some false)))

def law42_exact_L22 (p0 : List ((List UInt8) × Int)) (p1 : List Int) (p2 : List (List Int)) (p3 : List (Int × Int × Int × Bool)) (s : Int) : Option (Step Int (Unit ⊕ Unit)) :=
match s with
| i_s29_l22 =>
(if (decide (i_s29_l22 < ((p3).length : Int))) = true then
(if (decide (i_s29_l22 < 3)) = true then
((idx p3 i_s29_l22).bind fun x24 =>
((inventory_Apply p0 p1 p2 x24.1 x24.2.1 x24.2.2.1 x24.2.2.2).bind fun x26 =>
((idx p3 i_s29_l22).bind fun x29 =>
((r42_Apply p0 p1 p2 x29.1 x29.2.1 x29.2.2.1 x29.2.2.2).bind fun x31 =>
((gen_Lists x26.1 x31.1).bind fun x34 =>
(if (!x34) = true then
some (.done (.inl ()))
else
(if (x26.2 != x31.2) = true then
some (.done (.inl ()))
else
some (.next (IntKind.i64.wrap (i_s29_l22 + 1))))))))))
else
some (.done (.inr ())))
else
some (.done (.inr ())))

def law42_exact (p0 : List ((List UInt8) × Int)) (p1 : List Int) (p2 : List (List Int)) (p3 : List (Int × Int × Int × Bool)) (p4 : Int) (p5 : Int) (p6 : Int) : Option Bool :=
((inventory_Run p0 p1 p2 p3).bind fun x5 =>
((r42_Run p0 p1 p2 p3).bind fun x8 =>
((inventory_String p2 p4 p5 p6).bind fun x11 =>
((r42_String p2 p4 p5 p6).bind fun x14 =>
((inventory_Where p2 p6).bind fun x17 =>
((r42_Where p2 p6).bind fun x19 =>
((loop (law42_exact_L22 p0 p1 p2 p3) 0).bind fun d => match d with
| (.inl _) => some false
| (.inr _) => law42_exact_J21 p0 p1 p2 x5 x8 x11 x14 x17 x19)))))))

theorem law42_exact_w (a_p0 : Option Addr) (c_p0 : Nat) (p0 : List ((List UInt8) × Int)) (a_p1 : Option Addr) (c_p1 : Nat) (p1 : List Int) (a_p2 : Option Addr) (c_p2 : Nat) (p2 : List (List Int)) (a_p3 : Option Addr) (c_p3 : Nat) (p3 : List (Int × Int × Int × Bool)) (p4 : Int) (p5 : Int) (p6 : Int) (r : Bool) (w : World) (M : List Nat) (hms : MS w [M]) (hs_p0 : SlR (eProd eStr (eInt .i64)) w (fl [M]) a_p0 c_p0 p0) (hs_p1 : SlR (eInt .i64) w (fl [M]) a_p1 c_p1 p1) (hs_p2 : SlR (eSl (eInt .i64)) w (fl [M]) a_p2 c_p2 p2) (hs_p3 : SlR (eProd (eInt .i64) (eProd (eInt .i64) (eProd (eInt .i64) eBool))) w (fl [M]) a_p3 c_p3 p3) (h : law42_exact p0 p1 p2 p3 p4 p5 p6 = some r) : CallVC Try.prog 16 [Vl a_p0 p0 c_p0, Vl a_p1 p1 c_p1, Vl a_p2 p2 c_p2, Vl a_p3 p3 c_p3, Vi p4, Vi p5, Vi p6] w fun v w' => v = .bool r ∧ Ev [] w w' := by
 refine calls_vc hmx Try.func16 (by kernel_rfl) rfl (rs := [.tmp 14]) rfl (by kernel_rfl) (args := [Vl a_p0 p0 c_p0, Vl a_p1 p1 c_p1, Vl a_p2 p2 c_p2, Vl a_p3 p3 c_p3, Vi p4, Vi p5, Vi p6]) rfl ?_
 have hev : Ev [] w w := Ev.refl _ _
 have hfr : FR w.heap.size [] := FR.nil _
 refine c_sp ?_
 refine x_u 1 [(14, .bool false)] ?_
 refine x_ek ?_
 refine c_sp ?_
 refine x_u 4 [(35, Vl a_p0 p0 c_p0), (36, Vl a_p1 p1 c_p1), (37, Vl a_p2 p2 c_p2), (38, Vl a_p3 p3 c_p3)] ?_
 obtain ⟨x5, hx, h⟩ := bind_some h
 have hpk : MS w ([] ++ [M]) := hms.pick [some 0] _ rfl
 have hsb0 : ∀ x ∈ fl ([] ++ [M]), x ∈ fl [M] := pick_sub [some 0] _ rfl
 have hsb : ∀ x ∈ fl ([] ++ [(fl [M])]), x ∈ fl [M] := fun x hx => hsb0 x (fl_unfold x hx)
 have hcall := inventory_Run_w a_p0 c_p0 p0 a_p1 c_p1 p1 a_p2 c_p2 p2 a_p3 c_p3 p3 _ w (fl [M]) (MS.fold (P := []) hpk) (hs_p0.sub hsb) (hs_p1.sub hsb) (hs_p2.sub hsb) (hs_p3.sub hsb) hx
 refine x_call 18 #[] #[] [Vl a_p0 p0 c_p0, Vl a_p1 p1 c_p1, Vl a_p2 p2 c_p2, Vl a_p3 p3 c_p3] _ rfl rfl rfl rfl hcall ?_
 rintro v w6 ⟨a0_6, c0_6, B2_6, rfl, he6, hmn6, hfn6, hf6_1⟩
 clear hcall hx
 refine inl1 ?_
 have hpk2 : MS w ([] ++ [M]) := hms.pick [some 0] _ rfl
 have hsb2 : ∀ x ∈ fl ([] ++ [M]), x ∈ fl [M] := pick_sub [some 0] _ rfl
 have hst0 := Stp.call (LS := [M]) (res := [B2_6]) (par := []) (R := [M]) he6 (fun b hb => hsb2 b (fl_left' (P := []) b hb)) hfn6 (NP.init _ _) (fun x hx => hsb2 x (fl_right' (P := []) x hx))
 have hsn : ∀ x ∈ fl [B2_6, M], x ∈ fl ([B2_6] ++ ([] ++ [M])) := pick_sub [some 0, some 1] _ rfl
 have hst := hst0.res hsn
 replace hs_p0 := hs_p0.step hst
 replace hs_p1 := hs_p1.step hst
 replace hs_p2 := hs_p2.step hst
 replace hs_p3 := hs_p3.step hst
 replace hms : MS w6 [B2_6, M] := (MS.call (P := []) (R := [M]) (res := [B2_6]) (par := []) hpk2 he6 hmn6 hfn6 (NP.init _ _)).pick [some 0, some 1] _ rfl
 have hfr2 : FR w.heap.size [B2_6] := (FR.cons (fun b hb => Nat.le_trans hev.size (hfn6.at 0 rfl b hb)) (FR.nil _))
 replace hev := hev.ext he6
 replace hfr := hfr2
 clear hfr2
 clear hpk hsb hsb0 hpk2 hsb2 hst0 hsn hst
 have hpk : MS w6 [M] := hms.pick [some 1] _ rfl
 have hsu : ∀ x ∈ fl [M], x ∈ fl [B2_6, M] := pick_sub [some 1] _ rfl
 replace hs_p0 := hs_p0.sub hsu
 replace hs_p1 := hs_p1.sub hsu
 replace hs_p2 := hs_p2.sub hsu
 replace hs_p3 := hs_p3.sub hsu
 replace hf6_1 := hf6_1.ro (plain_int _) (pick_out hms 0 rfl [some 1] [M] rfl rfl)
 replace hms := hpk
 replace hfr : FR w.heap.size [] := hfr.pick [] _ rfl
 clear hpk hsu
 refine x_u 7 [(34, .tuple #[Vl a0_6 x5.1 c0_6, Vi x5.2.1, Vi x5.2.2]), (40, Vl a0_6 x5.1 c0_6), (41, Vi x5.2.1), (42, Vi x5.2.2), (15, Vl a0_6 x5.1 c0_6), (16, Vi x5.2.1), (17, Vi x5.2.2)] ?_
 refine x_ek ?_
 refine c_sp ?_
 refine x_u 4 [(44, Vl a_p0 p0 c_p0), (45, Vl a_p1 p1 c_p1), (46, Vl a_p2 p2 c_p2), (47, Vl a_p3 p3 c_p3)] ?_
 obtain ⟨x8, hx, h⟩ := bind_some h
 have hpk : MS w6 ([] ++ [M]) := hms.pick [some 0] _ rfl
 have hsb0 : ∀ x ∈ fl ([] ++ [M]), x ∈ fl [M] := pick_sub [some 0] _ rfl
 have hsb : ∀ x ∈ fl ([] ++ [(fl [M])]), x ∈ fl [M] := fun x hx => hsb0 x (fl_unfold x hx)
 have hcall := r42_Run_w a_p0 c_p0 p0 a_p1 c_p1 p1 a_p2 c_p2 p2 a_p3 c_p3 p3 _ w6 (fl [M]) (MS.fold (P := []) hpk) (hs_p0.sub hsb) (hs_p1.sub hsb) (hs_p2.sub hsb) (hs_p3.sub hsb) hx
 refine x_call 28 #[] #[] [Vl a_p0 p0 c_p0, Vl a_p1 p1 c_p1, Vl a_p2 p2 c_p2, Vl a_p3 p3 c_p3] _ rfl rfl rfl rfl hcall ?_
 rintro v w9 ⟨a0_9, c0_9, B2_9, rfl, he9, hmn9, hfn9, hf9_1⟩
 clear hcall hx
 refine inl1 ?_
 have hpk2 : MS w6 ([] ++ [M]) := hms.pick [some 0] _ rfl
 have hsb2 : ∀ x ∈ fl ([] ++ [M]), x ∈ fl [M] := pick_sub [some 0] _ rfl
 have hst0 := Stp.call (LS := [M]) (res := [B2_9]) (par := []) (R := [M]) he9 (fun b hb => hsb2 b (fl_left' (P := []) b hb)) hfn9 (NP.init _ _) (fun x hx => hsb2 x (fl_right' (P := []) x hx))
 have hsn : ∀ x ∈ fl [B2_9, M], x ∈ fl ([B2_9] ++ ([] ++ [M])) := pick_sub [some 0, some 1] _ rfl
 have hst := hst0.res hsn
 replace hs_p0 := hs_p0.step hst
 replace hs_p1 := hs_p1.step hst
 replace hs_p2 := hs_p2.step hst
 replace hs_p3 := hs_p3.step hst
 replace hf6_1 := hf6_1.step hst
 replace hms : MS w9 [B2_9, M] := (MS.call (P := []) (R := [M]) (res := [B2_9]) (par := []) hpk2 he9 hmn9 hfn9 (NP.init _ _)).pick [some 0, some 1] _ rfl
 have hfr2 : FR w.heap.size [B2_9] := (FR.cons (fun b hb => Nat.le_trans hev.size (hfn9.at 0 rfl b hb)) (FR.nil _))
 replace hev := hev.ext he9
 replace hfr := hfr2
 clear hfr2
 clear hpk hsb hsb0 hpk2 hsb2 hst0 hsn hst
 have hpk : MS w9 [M] := hms.pick [some 1] _ rfl
 have hsu : ∀ x ∈ fl [M], x ∈ fl [B2_9, M] := pick_sub [some 1] _ rfl
 replace hs_p0 := hs_p0.sub hsu
 replace hs_p1 := hs_p1.sub hsu
 replace hs_p2 := hs_p2.sub hsu
 replace hs_p3 := hs_p3.sub hsu
 replace hf6_1 := hf6_1.sub hsu
 replace hf9_1 := hf9_1.ro (plain_int _) (pick_out hms 0 rfl [some 1] [M] rfl rfl)
 replace hms := hpk
 replace hfr : FR w.heap.size [] := hfr.pick [] _ rfl
 clear hpk hsu
 refine x_u 7 [(43, .tuple #[Vl a0_9 x8.1 c0_9, Vi x8.2.1, Vi x8.2.2]), (49, Vl a0_9 x8.1 c0_9), (50, Vi x8.2.1), (51, Vi x8.2.2), (18, Vl a0_9 x8.1 c0_9), (19, Vi x8.2.1), (20, Vi x8.2.2)] ?_
 refine x_ek ?_
 refine c_norm [(0, Vl a_p0 p0 c_p0), (1, Vl a_p1 p1 c_p1), (2, Vl a_p2 p2 c_p2), (3, Vl a_p3 p3 c_p3), (4, Vi p4), (5, Vi p5), (6, Vi p6), (15, Vl a0_6 x5.1 c0_6), (16, Vi x5.2.1), (17, Vi x5.2.2), (18, Vl a0_9 x8.1 c0_9), (19, Vi x8.2.1), (20, Vi x8.2.2)] ⟨rfl, rfl, rfl, rfl, rfl, rfl, rfl, rfl, rfl, rfl, rfl, rfl, rfl, trivial⟩ (fun J => ?_)
 refine c_sp ?_
 refine x_u 4 [(53, Vl a_p2 p2 c_p2), (54, Vi p4), (55, Vi p5), (56, Vi p6)] ?_
 obtain ⟨x11, hx, h⟩ := bind_some h
 have hpk : MS w9 ([] ++ [M]) := hms.pick [some 0] _ rfl
 have hsb0 : ∀ x ∈ fl ([] ++ [M]), x ∈ fl [M] := pick_sub [some 0] _ rfl
 have hsb : ∀ x ∈ fl ([] ++ [(fl [M])]), x ∈ fl [M] := fun x hx => hsb0 x (fl_unfold x hx)
 have hcall := inventory_String_w a_p2 c_p2 p2 p4 p5 p6 _ w9 (fl [M]) (MS.fold (P := []) hpk) (hs_p2.sub hsb) hx
 refine x_call 26 #[] #[] [Vl a_p2 p2 c_p2, Vi p4, Vi p5, Vi p6] _ rfl rfl rfl rfl hcall ?_
 rintro v w12 ⟨a0_12, c0_12, rfl, he12, hmn12, hfn12, hf12_1⟩
 clear hcall hx
 refine inl1 ?_
 have hpk2 : MS w9 ([] ++ [M]) := hms.pick [some 0] _ rfl
 have hsb2 : ∀ x ∈ fl ([] ++ [M]), x ∈ fl [M] := pick_sub [some 0] _ rfl
 have hst0 := Stp.call (LS := [M]) (res := [blk a0_12]) (par := []) (R := [M]) he12 (fun b hb => hsb2 b (fl_left' (P := []) b hb)) hfn12 (NP.init _ _) (fun x hx => hsb2 x (fl_right' (P := []) x hx))
 have hsn : ∀ x ∈ fl [blk a0_12, M], x ∈ fl ([blk a0_12] ++ ([] ++ [M])) := pick_sub [some 0, some 1] _ rfl
 have hst := hst0.res hsn
 replace hs_p0 := hs_p0.step hst
 replace hs_p1 := hs_p1.step hst
 replace hs_p2 := hs_p2.step hst
 replace hs_p3 := hs_p3.step hst
 replace hf6_1 := hf6_1.step hst
 replace hf9_1 := hf9_1.step hst
 replace hms : MS w12 [blk a0_12, M] := (MS.call (P := []) (R := [M]) (res := [blk a0_12]) (par := []) hpk2 he12 hmn12 hfn12 (NP.init _ _)).pick [some 0, some 1] _ rfl
 have hfr2 : FR w.heap.size [blk a0_12] := (FR.cons (fun b hb => Nat.le_trans hev.size (hfn12.at 0 rfl b hb)) (FR.nil _))
 replace hev := hev.ext he12
 replace hfr := hfr2
 clear hfr2
 replace hf12_1 := OwnS.plain (M' := fl [blk a0_12, M]) (plain_prod (plain_int _) (plain_prod (plain_int _) (plain_prod (plain_int _) plain_bool))) hf12_1
 clear hpk hsb hsb0 hpk2 hsb2 hst0 hsn hst
 have hpk : MS w12 [M] := hms.pick [some 1] _ rfl
 have hsu : ∀ x ∈ fl [M], x ∈ fl [blk a0_12, M] := pick_sub [some 1] _ rfl
 replace hs_p0 := hs_p0.sub hsu
 replace hs_p1 := hs_p1.sub hsu
 replace hs_p2 := hs_p2.sub hsu
 replace hs_p3 := hs_p3.sub hsu
 replace hf6_1 := hf6_1.sub hsu
 replace hf9_1 := hf9_1.sub hsu
 replace hf12_1 := hf12_1.ro hsu (pick_out hms 0 rfl [some 1] [M] rfl rfl)
 replace hms := hpk
 replace hfr : FR w.heap.size [] := hfr.pick [] _ rfl
 clear hpk hsu
 refine x_u 5 [(52, .tuple #[Vl a0_12 x11.1 c0_12, Vi x11.2]), (58, Vl a0_12 x11.1 c0_12), (59, Vi x11.2), (21, Vl a0_12 x11.1 c0_12), (22, Vi x11.2)] ?_
 refine x_ek ?_
 refine c_sp ?_
 refine x_u 4 [(61, Vl a_p2 p2 c_p2), (62, Vi p4), (63, Vi p5), (64, Vi p6)] ?_
 obtain ⟨x14, hx, h⟩ := bind_some h
 have hpk : MS w12 ([] ++ [M]) := hms.pick [some 0] _ rfl
 have hsb0 : ∀ x ∈ fl ([] ++ [M]), x ∈ fl [M] := pick_sub [some 0] _ rfl
 have hsb : ∀ x ∈ fl ([] ++ [(fl [M])]), x ∈ fl [M] := fun x hx => hsb0 x (fl_unfold x hx)
 have hcall := r42_String_w a_p2 c_p2 p2 p4 p5 p6 _ w12 (fl [M]) (MS.fold (P := []) hpk) (hs_p2.sub hsb) hx
 refine x_call 29 #[] #[] [Vl a_p2 p2 c_p2, Vi p4, Vi p5, Vi p6] _ rfl rfl rfl rfl hcall ?_
 rintro v w15 ⟨a0_15, c0_15, rfl, he15, hmn15, hfn15, hf15_1⟩
 clear hcall hx
 refine inl1 ?_
 have hpk2 : MS w12 ([] ++ [M]) := hms.pick [some 0] _ rfl
 have hsb2 : ∀ x ∈ fl ([] ++ [M]), x ∈ fl [M] := pick_sub [some 0] _ rfl
 have hst0 := Stp.call (LS := [M]) (res := [blk a0_15]) (par := []) (R := [M]) he15 (fun b hb => hsb2 b (fl_left' (P := []) b hb)) hfn15 (NP.init _ _) (fun x hx => hsb2 x (fl_right' (P := []) x hx))
 have hsn : ∀ x ∈ fl [blk a0_15, M], x ∈ fl ([blk a0_15] ++ ([] ++ [M])) := pick_sub [some 0, some 1] _ rfl
 have hst := hst0.res hsn
 replace hs_p0 := hs_p0.step hst
 replace hs_p1 := hs_p1.step hst
 replace hs_p2 := hs_p2.step hst
 replace hs_p3 := hs_p3.step hst
 replace hf6_1 := hf6_1.step hst
 replace hf9_1 := hf9_1.step hst
 replace hf12_1 := hf12_1.step hst
 replace hms : MS w15 [blk a0_15, M] := (MS.call (P := []) (R := [M]) (res := [blk a0_15]) (par := []) hpk2 he15 hmn15 hfn15 (NP.init _ _)).pick [some 0, some 1] _ rfl
 have hfr2 : FR w.heap.size [blk a0_15] := (FR.cons (fun b hb => Nat.le_trans hev.size (hfn15.at 0 rfl b hb)) (FR.nil _))
 replace hev := hev.ext he15
 replace hfr := hfr2
 clear hfr2
 replace hf15_1 := OwnS.plain (M' := fl [blk a0_15, M]) (plain_prod (plain_int _) (plain_prod (plain_int _) (plain_prod (plain_int _) plain_bool))) hf15_1
 clear hpk hsb hsb0 hpk2 hsb2 hst0 hsn hst
 have hpk : MS w15 [M] := hms.pick [some 1] _ rfl
 have hsu : ∀ x ∈ fl [M], x ∈ fl [blk a0_15, M] := pick_sub [some 1] _ rfl
 replace hs_p0 := hs_p0.sub hsu
 replace hs_p1 := hs_p1.sub hsu
 replace hs_p2 := hs_p2.sub hsu
 replace hs_p3 := hs_p3.sub hsu
 replace hf6_1 := hf6_1.sub hsu
 replace hf9_1 := hf9_1.sub hsu
 replace hf12_1 := hf12_1.sub hsu
 replace hf15_1 := hf15_1.ro hsu (pick_out hms 0 rfl [some 1] [M] rfl rfl)
 replace hms := hpk
 replace hfr : FR w.heap.size [] := hfr.pick [] _ rfl
 clear hpk hsu
 refine x_u 5 [(60, .tuple #[Vl a0_15 x14.1 c0_15, Vi x14.2]), (66, Vl a0_15 x14.1 c0_15), (67, Vi x14.2), (23, Vl a0_15 x14.1 c0_15), (24, Vi x14.2)] ?_
 refine x_ek ?_
 refine c_norm [(0, Vl a_p0 p0 c_p0), (1, Vl a_p1 p1 c_p1), (2, Vl a_p2 p2 c_p2), (3, Vl a_p3 p3 c_p3), (6, Vi p6), (15, Vl a0_6 x5.1 c0_6), (16, Vi x5.2.1), (17, Vi x5.2.2), (18, Vl a0_9 x8.1 c0_9), (19, Vi x8.2.1), (20, Vi x8.2.2), (21, Vl a0_12 x11.1 c0_12), (22, Vi x11.2), (23, Vl a0_15 x14.1 c0_15), (24, Vi x14.2)] ⟨rfl, rfl, rfl, rfl, rfl, rfl, rfl, rfl, rfl, rfl, rfl, rfl, rfl, rfl, rfl, trivial⟩ (fun J => ?_)
 refine c_sp ?_
 refine x_u 2 [(69, Vl a_p2 p2 c_p2), (70, Vi p6)] ?_
 obtain ⟨x17, hx, h⟩ := bind_some h
 have hpk : MS w15 ([] ++ [M]) := hms.pick [some 0] _ rfl
 have hsb0 : ∀ x ∈ fl ([] ++ [M]), x ∈ fl [M] := pick_sub [some 0] _ rfl
 have hsb : ∀ x ∈ fl ([] ++ [(fl [M])]), x ∈ fl [M] := fun x hx => hsb0 x (fl_unfold x hx)
 have hcall := inventory_Where_w a_p2 c_p2 p2 p6 _ w15 (fl [M]) (MS.fold (P := []) hpk) (hs_p2.sub hsb) hx
 refine x_call 10 #[] #[] [Vl a_p2 p2 c_p2, Vi p6] _ rfl rfl rfl rfl hcall ?_
 rintro v w18 ⟨rfl, he18⟩
 clear hcall hx
 refine inl1 ?_
 have hst := Stp.ext (ls := [M]) he18
 replace hs_p0 := hs_p0.step hst
 replace hs_p1 := hs_p1.step hst
 replace hs_p2 := hs_p2.step hst
 replace hs_p3 := hs_p3.step hst
 replace hf6_1 := hf6_1.step hst
 replace hf9_1 := hf9_1.step hst
 replace hf12_1 := hf12_1.step hst
 replace hf15_1 := hf15_1.step hst
 replace hms := hms.ev he18
 replace hev := hev.ext he18
 clear hpk hsb hsb0
 refine x_u 5 [(68, .tuple #[Vi x17.1, Vi x17.2]), (72, Vi x17.1), (73, Vi x17.2), (25, Vi x17.1), (26, Vi x17.2)] ?_
 refine x_ek ?_
 refine c_sp ?_
 refine x_u 2 [(75, Vl a_p2 p2 c_p2), (76, Vi p6)] ?_
 obtain ⟨x19, hx, h⟩ := bind_some h
 have hpk : MS w18 ([] ++ [M]) := hms.pick [some 0] _ rfl
 have hsb0 : ∀ x ∈ fl ([] ++ [M]), x ∈ fl [M] := pick_sub [some 0] _ rfl
 have hsb : ∀ x ∈ fl ([] ++ [(fl [M])]), x ∈ fl [M] := fun x hx => hsb0 x (fl_unfold x hx)
 have hcall := r42_Where_w a_p2 c_p2 p2 p6 _ w18 (fl [M]) (MS.fold (P := []) hpk) (hs_p2.sub hsb) hx
 refine x_call 21 #[] #[] [Vl a_p2 p2 c_p2, Vi p6] _ rfl rfl rfl rfl hcall ?_
 rintro v w20 ⟨rfl, he20⟩
 clear hcall hx
 refine inl1 ?_
 have hst := Stp.ext (ls := [M]) he20
 replace hs_p0 := hs_p0.step hst
 replace hs_p1 := hs_p1.step hst
 replace hs_p2 := hs_p2.step hst
 replace hs_p3 := hs_p3.step hst
 replace hf6_1 := hf6_1.step hst
 replace hf9_1 := hf9_1.step hst
 replace hf12_1 := hf12_1.step hst
 replace hf15_1 := hf15_1.step hst
 replace hms := hms.ev he20
 replace hev := hev.ext he20
 clear hpk hsb hsb0
 refine x_u 5 [(74, .tuple #[Vi x19.1, Vi x19.2]), (78, Vi x19.1), (79, Vi x19.2), (27, Vi x19.1), (28, Vi x19.2)] ?_
 refine x_ek ?_
 refine c_norm [(0, Vl a_p0 p0 c_p0), (1, Vl a_p1 p1 c_p1), (2, Vl a_p2 p2 c_p2), (3, Vl a_p3 p3 c_p3), (15, Vl a0_6 x5.1 c0_6), (16, Vi x5.2.1), (17, Vi x5.2.2), (18, Vl a0_9 x8.1 c0_9), (19, Vi x8.2.1), (20, Vi x8.2.2), (21, Vl a0_12 x11.1 c0_12), (22, Vi x11.2), (23, Vl a0_15 x14.1 c0_15), (24, Vi x14.2), (25, Vi x17.1), (26, Vi x17.2), (27, Vi x19.1), (28, Vi x19.2)] ⟨rfl, rfl, rfl, rfl, rfl, rfl, rfl, rfl, rfl, rfl, rfl, rfl, rfl, rfl, rfl, rfl, rfl, rfl, trivial⟩ (fun J => ?_)
 refine c_join (σ := Unit) (fun s => match s with | _ => [(0, Vl a_p0 p0 c_p0), (1, Vl a_p1 p1 c_p1), (2, Vl a_p2 p2 c_p2), (15, Vl a0_6 x5.1 c0_6), (16, Vi x5.2.1), (17, Vi x5.2.2), (18, Vl a0_9 x8.1 c0_9), (19, Vi x8.2.1), (20, Vi x8.2.2), (21, Vl a0_12 x11.1 c0_12), (22, Vi x11.2), (23, Vl a0_15 x14.1 c0_15), (24, Vi x14.2), (25, Vi x17.1), (26, Vi x17.2), (27, Vi x19.1), (28, Vi x19.2)]) (fun s w' => match s with | _ => law42_exact_J21 p0 p1 p2 x5 x8 x11 x14 x17 x19 = some r ∧ Ev [] w w' ∧ MS w' [M] ∧ FR w.heap.size [] ∧ SlR (eProd eStr (eInt .i64)) w' (fl [M]) a_p0 c_p0 p0 ∧ SlR (eInt .i64) w' (fl [M]) a_p1 c_p1 p1 ∧ SlR (eSl (eInt .i64)) w' (fl [M]) a_p2 c_p2 p2 ∧ SlR (eSl (eInt .i64)) w' (fl [M]) a0_6 c0_6 x5.1 ∧ SlR (eSl (eInt .i64)) w' (fl [M]) a0_9 c0_9 x8.1 ∧ SlR (eProd (eInt .i64) (eProd (eInt .i64) (eProd (eInt .i64) eBool))) w' (fl [M]) a0_12 c0_12 x11.1 ∧ SlR (eProd (eInt .i64) (eProd (eInt .i64) (eProd (eInt .i64) eBool))) w' (fl [M]) a0_15 c0_15 x14.1) ?_ ?_
 · refine c_sp ?_
   refine x_u 1 [(29, Vi 0)] ?_
   refine x_ek ?_
   refine c_block ?_
   obtain ⟨d22, hd22, h22⟩ := bind_some h
   obtain ⟨m22, hd22⟩ := loop_some hd22
   refine c_loop (loop_rule hmx (σ := Nat × Int) (fun s => match s with | (_, i_s29_l22) => [(0, Vl a_p0 p0 c_p0), (1, Vl a_p1 p1 c_p1), (2, Vl a_p2 p2 c_p2), (3, Vl a_p3 p3 c_p3), (15, Vl a0_6 x5.1 c0_6), (16, Vi x5.2.1), (17, Vi x5.2.2), (18, Vl a0_9 x8.1 c0_9), (19, Vi x8.2.1), (20, Vi x8.2.2), (21, Vl a0_12 x11.1 c0_12), (22, Vi x11.2), (23, Vl a0_15 x14.1 c0_15), (24, Vi x14.2), (25, Vi x17.1), (26, Vi x17.2), (27, Vi x19.1), (28, Vi x19.2), (29, Vi i_s29_l22)]) (fun s w' => match s with | (m, i_s29_l22) => loopN (law42_exact_L22 p0 p1 p2 p3) m i_s29_l22 = some d22 ∧ Ev [] w w' ∧ MS w' [M] ∧ FR w.heap.size [] ∧ SlR (eProd eStr (eInt .i64)) w' (fl [M]) a_p0 c_p0 p0 ∧ SlR (eInt .i64) w' (fl [M]) a_p1 c_p1 p1 ∧ SlR (eSl (eInt .i64)) w' (fl [M]) a_p2 c_p2 p2 ∧ SlR (eProd (eInt .i64) (eProd (eInt .i64) (eProd (eInt .i64) eBool))) w' (fl [M]) a_p3 c_p3 p3 ∧ SlR (eSl (eInt .i64)) w' (fl [M]) a0_6 c0_6 x5.1 ∧ SlR (eSl (eInt .i64)) w' (fl [M]) a0_9 c0_9 x8.1 ∧ SlR (eProd (eInt .i64) (eProd (eInt .i64) (eProd (eInt .i64) eBool))) w' (fl [M]) a0_12 c0_12 x11.1 ∧ SlR (eProd (eInt .i64) (eProd (eInt .i64) (eProd (eInt .i64) eBool))) w' (fl [M]) a0_15 c0_15 x14.1) (fun s => s.1) (m22, 0) ⟨rfl, rfl, rfl, rfl, rfl, rfl, rfl, rfl, rfl, rfl, rfl, rfl, rfl, rfl, rfl, rfl, rfl, rfl, rfl, trivial⟩ ⟨hd22, hev, hms, hfr, hs_p0, hs_p1, hs_p2, hs_p3, hf6_1, hf9_1, hf12_1, hf15_1⟩ ?_)
   rintro ⟨m22, i_s29_l22⟩ J wl22 ⟨hn22, hev, hms, hfr, hs_p0, hs_p1, hs_p2, hs_p3, hf6_1, hf9_1, hf12_1, hf15_1⟩
   rcases m22 with _ | m22
   · exact (loopN_zero hn22).elim
   obtain ⟨t22, h, hn22⟩ := bind_some hn22
   refine c_seq ?_
   refine c_sp ?_
   refine x_u 2 [(80, Vi i_s29_l22), (81, Vl a_p3 p3 c_p3)] ?_
   refine x_len (vs := [Vl a_p3 p3 c_p3]) (Vi ((p3).length : Int)) rfl rfl rfl (reads_len tsl41 _ _ _ _ _) ?_
   refine x_u 2 [(83, .bool (decide (i_s29_l22 < ((p3).length : Int)))), (84, .bool (decide (i_s29_l22 < ((p3).length : Int))))] ?_
   refine x_if 84 (decide (i_s29_l22 < ((p3).length : Int))) rfl h (fun h => ?_) (fun h => ?_)
   · refine x_u 3 [(85, Vi i_s29_l22), (86, .bool (decide (i_s29_l22 < 3))), (87, .bool (decide (i_s29_l22 < 3)))] ?_
     refine x_ek ?_
     refine c_norm [(0, Vl a_p0 p0 c_p0), (1, Vl a_p1 p1 c_p1), (2, Vl a_p2 p2 c_p2), (3, Vl a_p3 p3 c_p3), (15, Vl a0_6 x5.1 c0_6), (16, Vi x5.2.1), (17, Vi x5.2.2), (18, Vl a0_9 x8.1 c0_9), (19, Vi x8.2.1), (20, Vi x8.2.2), (21, Vl a0_12 x11.1 c0_12), (22, Vi x11.2), (23, Vl a0_15 x14.1 c0_15), (24, Vi x14.2), (25, Vi x17.1), (26, Vi x17.2), (27, Vi x19.1), (28, Vi x19.2), (29, Vi i_s29_l22), (87, .bool (decide (i_s29_l22 < 3)))] ⟨rfl, rfl, rfl, rfl, rfl, rfl, rfl, rfl, rfl, rfl, rfl, rfl, rfl, rfl, rfl, rfl, rfl, rfl, rfl, rfl, trivial⟩ (fun J => ?_)
     refine c_if (decide (i_s29_l22 < 3)) rfl h (fun h => ?_) (fun h => ?_)
     · refine c_skip ?_
       refine k_then ?_
       refine c_seq ?_
       refine c_block ?_
       refine c_sp ?_
       refine x_u 5 [(91, Vl a_p0 p0 c_p0), (92, Vl a_p1 p1 c_p1), (93, Vl a_p2 p2 c_p2), (94, Vl a_p3 p3 c_p3), (95, Vi i_s29_l22)] ?_
       obtain ⟨x24, hx24, h⟩ := bind_some h
       obtain ⟨ad24, cs24, hr24, hc24, hR⟩ := reads_index (Mo := []) tsl41 hs_p3 hx24
       obtain ⟨_, _, rfl, rfl, ⟨_, _, rfl, rfl, ⟨_, _, rfl, rfl, rfl⟩⟩⟩ := hR
       refine x_indexAddr (xv := Vl a_p3 p3 c_p3) (yv := Vi i_s29_l22) (.pointer (some ad24)) rfl rfl rfl rfl hr24 ?_
       refine x_load (xv := .pointer (some ad24)) (.agg #[Vi x24.1, Vi x24.2.1, Vi x24.2.2.1, .bool x24.2.2.2]) rfl rfl rfl (reads_agg tagg30 hc24 (fun _ h => by cases h)) ?_
       obtain ⟨x26, hx, h⟩ := bind_some h
       have hpk : MS wl22 ([] ++ [M]) := hms.pick [some 0] _ rfl
       have hsb0 : ∀ x ∈ fl ([] ++ [M]), x ∈ fl [M] := pick_sub [some 0] _ rfl
       have hsb : ∀ x ∈ fl ([] ++ [(fl [M])]), x ∈ fl [M] := fun x hx => hsb0 x (fl_unfold x hx)
       have hcall := inventory_Apply_w a_p0 c_p0 p0 a_p1 c_p1 p1 a_p2 c_p2 p2 x24.1 x24.2.1 x24.2.2.1 x24.2.2.2 _ wl22 (fl [M]) (MS.fold (P := []) hpk) (hs_p0.sub hsb) (hs_p1.sub hsb) (hs_p2.sub hsb) hx
       refine x_call 9 #[] #[] [Vl a_p0 p0 c_p0, Vl a_p1 p1 c_p1, Vl a_p2 p2 c_p2, .agg #[Vi x24.1, Vi x24.2.1, Vi x24.2.2.1, .bool x24.2.2.2]] _ rfl rfl rfl rfl hcall ?_
       rintro v w27 ⟨a0_27, c0_27, B2_27, rfl, he27, hmn27, hfn27, hf27_1⟩
       clear hcall hx
       refine inl1 ?_
       have hpk2 : MS wl22 ([] ++ [M]) := hms.pick [some 0] _ rfl
       have hsb2 : ∀ x ∈ fl ([] ++ [M]), x ∈ fl [M] := pick_sub [some 0] _ rfl
       have hst0 := Stp.call (LS := [M]) (res := [B2_27]) (par := []) (R := [M]) he27 (fun b hb => hsb2 b (fl_left' (P := []) b hb)) hfn27 (NP.init _ _) (fun x hx => hsb2 x (fl_right' (P := []) x hx))
       have hsn : ∀ x ∈ fl [B2_27, M], x ∈ fl ([B2_27] ++ ([] ++ [M])) := pick_sub [some 0, some 1] _ rfl
       have hst := hst0.res hsn
       replace hs_p0 := hs_p0.step hst
       replace hs_p1 := hs_p1.step hst
       replace hs_p2 := hs_p2.step hst
       replace hs_p3 := hs_p3.step hst
       replace hf6_1 := hf6_1.step hst
       replace hf9_1 := hf9_1.step hst
       replace hf12_1 := hf12_1.step hst
       replace hf15_1 := hf15_1.step hst
       replace hc24 := hc24.step hst
       replace hms : MS w27 [B2_27, M] := (MS.call (P := []) (R := [M]) (res := [B2_27]) (par := []) hpk2 he27 hmn27 hfn27 (NP.init _ _)).pick [some 0, some 1] _ rfl
       have hfr2 : FR w.heap.size [B2_27] := (FR.cons (fun b hb => Nat.le_trans hev.size (hfn27.at 0 rfl b hb)) (FR.nil _))
       replace hev := hev.ext he27
       replace hfr := hfr2
       clear hfr2
       clear hpk hsb hsb0 hpk2 hsb2 hst0 hsn hst
       have hpk : MS w27 [M] := hms.pick [some 1] _ rfl
       have hsu : ∀ x ∈ fl [M], x ∈ fl [B2_27, M] := pick_sub [some 1] _ rfl
       replace hs_p0 := hs_p0.sub hsu
       replace hs_p1 := hs_p1.sub hsu
       replace hs_p2 := hs_p2.sub hsu
       replace hs_p3 := hs_p3.sub hsu
       replace hf6_1 := hf6_1.sub hsu
       replace hf9_1 := hf9_1.sub hsu
       replace hf12_1 := hf12_1.sub hsu
       replace hf15_1 := hf15_1.sub hsu
       replace hc24 := hc24.sub hsu
       replace hf27_1 := hf27_1.ro (plain_int _) (pick_out hms 0 rfl [some 1] [M] rfl rfl)
       replace hms := hpk
       replace hfr : FR w.heap.size [] := hfr.pick [] _ rfl
       clear hpk hsu
       refine x_u 5 [(90, .tuple #[Vl a0_27 x26.1 c0_27, Vi x26.2]), (99, Vl a0_27 x26.1 c0_27), (100, Vi x26.2), (30, Vl a0_27 x26.1 c0_27), (31, Vi x26.2)] ?_
       refine x_ek ?_
       refine c_norm [(0, Vl a_p0 p0 c_p0), (1, Vl a_p1 p1 c_p1), (2, Vl a_p2 p2 c_p2), (3, Vl a_p3 p3 c_p3), (15, Vl a0_6 x5.1 c0_6), (16, Vi x5.2.1), (17, Vi x5.2.2), (18, Vl a0_9 x8.1 c0_9), (19, Vi x8.2.1), (20, Vi x8.2.2), (21, Vl a0_12 x11.1 c0_12), (22, Vi x11.2), (23, Vl a0_15 x14.1 c0_15), (24, Vi x14.2), (25, Vi x17.1), (26, Vi x17.2), (27, Vi x19.1), (28, Vi x19.2), (29, Vi i_s29_l22), (30, Vl a0_27 x26.1 c0_27), (31, Vi x26.2)] ⟨rfl, rfl, rfl, rfl, rfl, rfl, rfl, rfl, rfl, rfl, rfl, rfl, rfl, rfl, rfl, rfl, rfl, rfl, rfl, rfl, rfl, trivial⟩ (fun J => ?_)
       refine c_sp ?_
       refine x_u 5 [(102, Vl a_p0 p0 c_p0), (103, Vl a_p1 p1 c_p1), (104, Vl a_p2 p2 c_p2), (105, Vl a_p3 p3 c_p3), (106, Vi i_s29_l22)] ?_
       obtain ⟨x29, hx29, h⟩ := bind_some h
       obtain ⟨ad29, cs29, hr29, hc29, hR⟩ := reads_index (Mo := []) tsl41 hs_p3 hx29
       obtain ⟨_, _, rfl, rfl, ⟨_, _, rfl, rfl, ⟨_, _, rfl, rfl, rfl⟩⟩⟩ := hR
       refine x_indexAddr (xv := Vl a_p3 p3 c_p3) (yv := Vi i_s29_l22) (.pointer (some ad29)) rfl rfl rfl rfl hr29 ?_
       refine x_load (xv := .pointer (some ad29)) (.agg #[Vi x29.1, Vi x29.2.1, Vi x29.2.2.1, .bool x29.2.2.2]) rfl rfl rfl (reads_agg tagg30 hc29 (fun _ h => by cases h)) ?_
       obtain ⟨x31, hx, h⟩ := bind_some h
       have hpk : MS w27 ([] ++ [M]) := hms.pick [some 0] _ rfl
       have hsb0 : ∀ x ∈ fl ([] ++ [M]), x ∈ fl [M] := pick_sub [some 0] _ rfl
       have hsb : ∀ x ∈ fl ([] ++ [(fl [M])]), x ∈ fl [M] := fun x hx => hsb0 x (fl_unfold x hx)
       have hcall := r42_Apply_w a_p0 c_p0 p0 a_p1 c_p1 p1 a_p2 c_p2 p2 x29.1 x29.2.1 x29.2.2.1 x29.2.2.2 _ w27 (fl [M]) (MS.fold (P := []) hpk) (hs_p0.sub hsb) (hs_p1.sub hsb) (hs_p2.sub hsb) hx
       refine x_call 17 #[] #[] [Vl a_p0 p0 c_p0, Vl a_p1 p1 c_p1, Vl a_p2 p2 c_p2, .agg #[Vi x29.1, Vi x29.2.1, Vi x29.2.2.1, .bool x29.2.2.2]] _ rfl rfl rfl rfl hcall ?_
       rintro v w32 ⟨a0_32, c0_32, B2_32, rfl, he32, hmn32, hfn32, hf32_1⟩
       clear hcall hx
       refine inl1 ?_
       have hpk2 : MS w27 ([] ++ [M]) := hms.pick [some 0] _ rfl
       have hsb2 : ∀ x ∈ fl ([] ++ [M]), x ∈ fl [M] := pick_sub [some 0] _ rfl
       have hst0 := Stp.call (LS := [M]) (res := [B2_32]) (par := []) (R := [M]) he32 (fun b hb => hsb2 b (fl_left' (P := []) b hb)) hfn32 (NP.init _ _) (fun x hx => hsb2 x (fl_right' (P := []) x hx))
       have hsn : ∀ x ∈ fl [B2_32, M], x ∈ fl ([B2_32] ++ ([] ++ [M])) := pick_sub [some 0, some 1] _ rfl
       have hst := hst0.res hsn
       replace hs_p0 := hs_p0.step hst
       replace hs_p1 := hs_p1.step hst
       replace hs_p2 := hs_p2.step hst
       replace hs_p3 := hs_p3.step hst
       replace hf6_1 := hf6_1.step hst
       replace hf9_1 := hf9_1.step hst
       replace hf12_1 := hf12_1.step hst
       replace hf15_1 := hf15_1.step hst
       replace hf27_1 := hf27_1.step hst
       replace hc29 := hc29.step hst
       replace hms : MS w32 [B2_32, M] := (MS.call (P := []) (R := [M]) (res := [B2_32]) (par := []) hpk2 he32 hmn32 hfn32 (NP.init _ _)).pick [some 0, some 1] _ rfl
       have hfr2 : FR w.heap.size [B2_32] := (FR.cons (fun b hb => Nat.le_trans hev.size (hfn32.at 0 rfl b hb)) (FR.nil _))
       replace hev := hev.ext he32
       replace hfr := hfr2
       clear hfr2
       clear hpk hsb hsb0 hpk2 hsb2 hst0 hsn hst
       have hpk : MS w32 [M] := hms.pick [some 1] _ rfl
       have hsu : ∀ x ∈ fl [M], x ∈ fl [B2_32, M] := pick_sub [some 1] _ rfl
       replace hs_p0 := hs_p0.sub hsu
       replace hs_p1 := hs_p1.sub hsu
       replace hs_p2 := hs_p2.sub hsu
       replace hs_p3 := hs_p3.sub hsu
       replace hf6_1 := hf6_1.sub hsu
       replace hf9_1 := hf9_1.sub hsu
       replace hf12_1 := hf12_1.sub hsu
       replace hf15_1 := hf15_1.sub hsu
       replace hf27_1 := hf27_1.sub hsu
       replace hc29 := hc29.sub hsu
       replace hf32_1 := hf32_1.ro (plain_int _) (pick_out hms 0 rfl [some 1] [M] rfl rfl)
       replace hms := hpk
       replace hfr : FR w.heap.size [] := hfr.pick [] _ rfl
       clear hpk hsu
       refine x_u 5 [(101, .tuple #[Vl a0_32 x31.1 c0_32, Vi x31.2]), (110, Vl a0_32 x31.1 c0_32), (111, Vi x31.2), (32, Vl a0_32 x31.1 c0_32), (33, Vi x31.2)] ?_
       refine x_ek ?_
       refine c_sp ?_
       refine x_u 2 [(112, Vl a0_27 x26.1 c0_27), (113, Vl a0_32 x31.1 c0_32)] ?_
       obtain ⟨x34, hx, h⟩ := bind_some h
       have hpk : MS w32 ([] ++ [M]) := hms.pick [some 0] _ rfl
       have hsb0 : ∀ x ∈ fl ([] ++ [M]), x ∈ fl [M] := pick_sub [some 0] _ rfl
       have hsb : ∀ x ∈ fl ([] ++ [(fl [M])]), x ∈ fl [M] := fun x hx => hsb0 x (fl_unfold x hx)
       have hcall := gen_Lists_w a0_27 c0_27 x26.1 a0_32 c0_32 x31.1 _ w32 (fl [M]) (MS.fold (P := []) hpk) (hf27_1.sub hsb) (hf32_1.sub hsb) hx
       refine x_call 19 #[] #[] [Vl a0_27 x26.1 c0_27, Vl a0_32 x31.1 c0_32] _ rfl rfl rfl rfl hcall ?_
       rintro v w35 ⟨rfl, he35⟩
       clear hcall hx
       refine inl1 ?_
       have hst := Stp.ext (ls := [M]) he35
       replace hs_p0 := hs_p0.step hst
       replace hs_p1 := hs_p1.step hst
       replace hs_p2 := hs_p2.step hst
       replace hs_p3 := hs_p3.step hst
       replace hf6_1 := hf6_1.step hst
       replace hf9_1 := hf9_1.step hst
       replace hf12_1 := hf12_1.step hst
       replace hf15_1 := hf15_1.step hst
       replace hf27_1 := hf27_1.step hst
       replace hf32_1 := hf32_1.step hst
       replace hms := hms.ev he35
       replace hev := hev.ext he35
       clear hpk hsb hsb0
       refine x_u 2 [(115, .bool (!x34)), (116, .bool (!x34))] ?_
       refine x_if 116 (!x34) rfl h (fun h => ?_) (fun h => ?_)
       · refine x_u 4 [(117, undef), (118, undef), (119, undef), (120, .bool true)] ?_
         refine x_ek ?_
         refine c_norm [(0, Vl a_p0 p0 c_p0), (1, Vl a_p1 p1 c_p1), (2, Vl a_p2 p2 c_p2), (3, Vl a_p3 p3 c_p3), (15, Vl a0_6 x5.1 c0_6), (16, Vi x5.2.1), (17, Vi x5.2.2), (18, Vl a0_9 x8.1 c0_9), (19, Vi x8.2.1), (20, Vi x8.2.2), (21, Vl a0_12 x11.1 c0_12), (22, Vi x11.2), (23, Vl a0_15 x14.1 c0_15), (24, Vi x14.2), (25, Vi x17.1), (26, Vi x17.2), (27, Vi x19.1), (28, Vi x19.2), (29, Vi i_s29_l22), (120, .bool true)] ⟨rfl, rfl, rfl, rfl, rfl, rfl, rfl, rfl, rfl, rfl, rfl, rfl, rfl, rfl, rfl, rfl, rfl, rfl, rfl, rfl, trivial⟩ (fun J => ?_)
         refine c_true rfl ?_
         refine c_sp ?_
         refine x_u 1 [(14, .bool false)] ?_
         refine x_ek ?_
         refine c_ret ?_
         refine k_block_ret ?_
         refine k_then_ret ?_
         have hx := some_inj h
         subst hx
         have hy := some_inj hn22
         subst hy
         replace h := h22
         refine k_then_ret ?_
         refine k_block_ret ?_
         refine k_then_ret ?_
         refine r_ret (r_vals [.bool false] ⟨rfl, trivial⟩ ?_)
         have hx := some_inj h
         subst hx
         have hmr : MS w35 [M] := hms.pick [some 0] _ rfl
         have hsu : ∀ x ∈ fl [M], x ∈ fl [M] := pick_sub [some 0] _ rfl
         exact ⟨rfl, hev⟩
       refine x_u 4 [(117, Vi x26.2), (118, Vi x31.2), (119, .bool (x26.2 != x31.2)), (120, .bool (x26.2 != x31.2))] ?_
       refine x_ek ?_
       refine c_norm [(0, Vl a_p0 p0 c_p0), (1, Vl a_p1 p1 c_p1), (2, Vl a_p2 p2 c_p2), (3, Vl a_p3 p3 c_p3), (15, Vl a0_6 x5.1 c0_6), (16, Vi x5.2.1), (17, Vi x5.2.2), (18, Vl a0_9 x8.1 c0_9), (19, Vi x8.2.1), (20, Vi x8.2.2), (21, Vl a0_12 x11.1 c0_12), (22, Vi x11.2), (23, Vl a0_15 x14.1 c0_15), (24, Vi x14.2), (25, Vi x17.1), (26, Vi x17.2), (27, Vi x19.1), (28, Vi x19.2), (29, Vi i_s29_l22), (120, .bool (x26.2 != x31.2))] ⟨rfl, rfl, rfl, rfl, rfl, rfl, rfl, rfl, rfl, rfl, rfl, rfl, rfl, rfl, rfl, rfl, rfl, rfl, rfl, rfl, trivial⟩ (fun J => ?_)
       refine c_if (x26.2 != x31.2) rfl h (fun h => ?_) (fun h => ?_)
       · refine c_sp ?_
         refine x_u 1 [(14, .bool false)] ?_
         refine x_ek ?_
         refine c_ret ?_
         refine k_block_ret ?_
         refine k_then_ret ?_
         have hx := some_inj h
         subst hx
         have hy := some_inj hn22
         subst hy
         replace h := h22
         refine k_then_ret ?_
         refine k_block_ret ?_
         refine k_then_ret ?_
         refine r_ret (r_vals [.bool false] ⟨rfl, trivial⟩ ?_)
         have hx := some_inj h
         subst hx
         have hmr : MS w35 [M] := hms.pick [some 0] _ rfl
         have hsu : ∀ x ∈ fl [M], x ∈ fl [M] := pick_sub [some 0] _ rfl
         exact ⟨rfl, hev⟩
       refine c_skip ?_
       refine k_block ?_
       refine k_then ?_
       refine c_plain ?_
       refine x_u 3 [(88, Vi i_s29_l22), (89, Vi (IntKind.i64.wrap (i_s29_l22 + 1))), (29, Vi (IntKind.i64.wrap (i_s29_l22 + 1)))] ?_
       refine x_end rfl ?_
       have hx := some_inj h
       subst hx
       exact k_then ⟨(m22, IntKind.i64.wrap (i_s29_l22 + 1)), ⟨rfl, rfl, rfl, rfl, rfl, rfl, rfl, rfl, rfl, rfl, rfl, rfl, rfl, rfl, rfl, rfl, rfl, rfl, rfl, trivial⟩, ⟨hn22, hev, hms, hfr, hs_p0, hs_p1, hs_p2, hs_p3, hf6_1, hf9_1, hf12_1, hf15_1⟩, Nat.lt_succ_self _⟩
     refine c_exit ?_
     refine k_then_exit ?_
     have hx := some_inj h
     subst hx
     have hy := some_inj hn22
     subst hy
     replace h := h22
     refine k_then_exit ?_
     refine k_block_in ?_
     exact k_then ⟨(), ⟨rfl, rfl, rfl, rfl, rfl, rfl, rfl, rfl, rfl, rfl, rfl, rfl, rfl, rfl, rfl, rfl, rfl, trivial⟩, h, hev, hms, hfr, hs_p0, hs_p1, hs_p2, hf6_1, hf9_1, hf12_1, hf15_1⟩
   refine x_u 3 [(85, undef), (86, undef), (87, .bool false)] ?_
   refine x_ek ?_
   refine c_norm [(0, Vl a_p0 p0 c_p0), (1, Vl a_p1 p1 c_p1), (2, Vl a_p2 p2 c_p2), (3, Vl a_p3 p3 c_p3), (15, Vl a0_6 x5.1 c0_6), (16, Vi x5.2.1), (17, Vi x5.2.2), (18, Vl a0_9 x8.1 c0_9), (19, Vi x8.2.1), (20, Vi x8.2.2), (21, Vl a0_12 x11.1 c0_12), (22, Vi x11.2), (23, Vl a0_15 x14.1 c0_15), (24, Vi x14.2), (25, Vi x17.1), (26, Vi x17.2), (27, Vi x19.1), (28, Vi x19.2), (29, Vi i_s29_l22), (87, .bool false)] ⟨rfl, rfl, rfl, rfl, rfl, rfl, rfl, rfl, rfl, rfl, rfl, rfl, rfl, rfl, rfl, rfl, rfl, rfl, rfl, rfl, trivial⟩ (fun J => ?_)
   refine c_false rfl ?_
   refine c_exit ?_
   refine k_then_exit ?_
   have hx := some_inj h
   subst hx
   have hy := some_inj hn22
   subst hy
   replace h := h22
   refine k_then_exit ?_
   refine k_block_in ?_
   exact k_then ⟨(), ⟨rfl, rfl, rfl, rfl, rfl, rfl, rfl, rfl, rfl, rfl, rfl, rfl, rfl, rfl, rfl, rfl, rfl, trivial⟩, h, hev, hms, hfr, hs_p0, hs_p1, hs_p2, hf6_1, hf9_1, hf12_1, hf15_1⟩
 rintro _ J wj21 ⟨h, hev, hms, hfr, hs_p0, hs_p1, hs_p2, hf6_1, hf9_1, hf12_1, hf15_1⟩
 refine c_sp ?_
 refine x_u 3 [(121, Vl a_p0 p0 c_p0), (122, Vl a_p1 p1 c_p1), (123, Vl a_p2 p2 c_p2)] ?_
 obtain ⟨x36, hx, h⟩ := bind_some h
 have hpk : MS wj21 ([] ++ [M]) := hms.pick [some 0] _ rfl
 have hsb0 : ∀ x ∈ fl ([] ++ [M]), x ∈ fl [M] := pick_sub [some 0] _ rfl
 have hsb : ∀ x ∈ fl ([] ++ [(fl [M])]), x ∈ fl [M] := fun x hx => hsb0 x (fl_unfold x hx)
 have hcall := inventory_Valid_w a_p0 c_p0 p0 a_p1 c_p1 p1 a_p2 c_p2 p2 _ wj21 (fl [M]) (MS.fold (P := []) hpk) (hs_p0.sub hsb) (hs_p1.sub hsb) (hs_p2.sub hsb) hx
 refine x_call 11 #[] #[] [Vl a_p0 p0 c_p0, Vl a_p1 p1 c_p1, Vl a_p2 p2 c_p2] _ rfl rfl rfl rfl hcall ?_
 rintro v w37 ⟨rfl, he37⟩
 clear hcall hx
 refine inl1 ?_
 have hst := Stp.ext (ls := [M]) he37
 replace hs_p0 := hs_p0.step hst
 replace hs_p1 := hs_p1.step hst
 replace hs_p2 := hs_p2.step hst
 replace hf6_1 := hf6_1.step hst
 replace hf9_1 := hf9_1.step hst
 replace hf12_1 := hf12_1.step hst
 replace hf15_1 := hf15_1.step hst
 replace hms := hms.ev he37
 replace hev := hev.ext he37
 clear hpk hsb hsb0
 refine x_u 3 [(125, Vl a_p0 p0 c_p0), (126, Vl a_p1 p1 c_p1), (127, Vl a_p2 p2 c_p2)] ?_
 obtain ⟨x38, hx, h⟩ := bind_some h
 have hpk : MS w37 ([] ++ [M]) := hms.pick [some 0] _ rfl
 have hsb0 : ∀ x ∈ fl ([] ++ [M]), x ∈ fl [M] := pick_sub [some 0] _ rfl
 have hsb : ∀ x ∈ fl ([] ++ [(fl [M])]), x ∈ fl [M] := fun x hx => hsb0 x (fl_unfold x hx)
 have hcall := r42_Valid_w a_p0 c_p0 p0 a_p1 c_p1 p1 a_p2 c_p2 p2 _ w37 (fl [M]) (MS.fold (P := []) hpk) (hs_p0.sub hsb) (hs_p1.sub hsb) (hs_p2.sub hsb) hx
 refine x_call 20 #[] #[] [Vl a_p0 p0 c_p0, Vl a_p1 p1 c_p1, Vl a_p2 p2 c_p2] _ rfl rfl rfl rfl hcall ?_
 rintro v w39 ⟨rfl, he39⟩
 clear hcall hx
 refine inl1 ?_
 have hst := Stp.ext (ls := [M]) he39
 replace hs_p0 := hs_p0.step hst
 replace hs_p1 := hs_p1.step hst
 replace hs_p2 := hs_p2.step hst
 replace hf6_1 := hf6_1.step hst
 replace hf9_1 := hf9_1.step hst
 replace hf12_1 := hf12_1.step hst
 replace hf15_1 := hf15_1.step hst
 replace hms := hms.ev he39
 replace hev := hev.ext he39
 clear hpk hsb hsb0
 refine x_binop (.bool (x36 == x38)) (.bool x36) (.bool x38) rfl rfl rfl rfl (vb_booleql tbool4) ?_
 refine x_u 1 [(130, .bool (x36 == x38))] ?_
 refine x_if 130 (x36 == x38) rfl h (fun h => ?_) (fun h => ?_)
 · refine x_u 2 [(131, Vl a0_6 x5.1 c0_6), (132, Vl a0_9 x8.1 c0_9)] ?_
   obtain ⟨x40, hx, h⟩ := bind_some h
   have hpk : MS w39 ([] ++ [M]) := hms.pick [some 0] _ rfl
   have hsb0 : ∀ x ∈ fl ([] ++ [M]), x ∈ fl [M] := pick_sub [some 0] _ rfl
   have hsb : ∀ x ∈ fl ([] ++ [(fl [M])]), x ∈ fl [M] := fun x hx => hsb0 x (fl_unfold x hx)
   have hcall := gen_Lists_w a0_6 c0_6 x5.1 a0_9 c0_9 x8.1 _ w39 (fl [M]) (MS.fold (P := []) hpk) (hf6_1.sub hsb) (hf9_1.sub hsb) hx
   refine x_call 19 #[] #[] [Vl a0_6 x5.1 c0_6, Vl a0_9 x8.1 c0_9] _ rfl rfl rfl rfl hcall ?_
   rintro v w41 ⟨rfl, he41⟩
   clear hcall hx
   refine inl1 ?_
   have hst := Stp.ext (ls := [M]) he41
   replace hs_p0 := hs_p0.step hst
   replace hs_p1 := hs_p1.step hst
   replace hs_p2 := hs_p2.step hst
   replace hf6_1 := hf6_1.step hst
   replace hf9_1 := hf9_1.step hst
   replace hf12_1 := hf12_1.step hst
   replace hf15_1 := hf15_1.step hst
   replace hms := hms.ev he41
   replace hev := hev.ext he41
   clear hpk hsb hsb0
   refine x_u 2 [(134, .bool x40), (135, .bool x40)] ?_
   refine x_if 135 x40 rfl h (fun h => ?_) (fun h => ?_)
   · refine x_u 5 [(136, Vi x5.2.1), (137, Vi x8.2.1), (138, .bool (x5.2.1 == x8.2.1)), (139, .bool (x5.2.1 == x8.2.1)), (140, .bool (x5.2.1 == x8.2.1))] ?_
     refine x_if 140 (x5.2.1 == x8.2.1) rfl h (fun h => ?_) (fun h => ?_)
     · refine x_u 5 [(141, Vi x5.2.2), (142, Vi x8.2.2), (143, .bool (x5.2.2 == x8.2.2)), (144, .bool (x5.2.2 == x8.2.2)), (145, .bool (x5.2.2 == x8.2.2))] ?_
       refine x_if 145 (x5.2.2 == x8.2.2) rfl h (fun h => ?_) (fun h => ?_)
       · refine x_u 2 [(146, Vl a0_12 x11.1 c0_12), (147, Vl a0_15 x14.1 c0_15)] ?_
         obtain ⟨x42, hx, h⟩ := bind_some h
         have hpk : MS w41 ([] ++ [M]) := hms.pick [some 0] _ rfl
         have hsb0 : ∀ x ∈ fl ([] ++ [M]), x ∈ fl [M] := pick_sub [some 0] _ rfl
         have hsb : ∀ x ∈ fl ([] ++ [(fl [M])]), x ∈ fl [M] := fun x hx => hsb0 x (fl_unfold x hx)
         have hcall := yardgen_SameShifts_w a0_12 c0_12 x11.1 a0_15 c0_15 x14.1 _ w41 (fl [M]) (MS.fold (P := []) hpk) (hf12_1.sub hsb) (hf15_1.sub hsb) hx
         refine x_call 27 #[] #[] [Vl a0_12 x11.1 c0_12, Vl a0_15 x14.1 c0_15] _ rfl rfl rfl rfl hcall ?_
         rintro v w43 ⟨rfl, he43⟩
         clear hcall hx
         refine inl1 ?_
         have hst := Stp.ext (ls := [M]) he43
         replace hs_p0 := hs_p0.step hst
         replace hs_p1 := hs_p1.step hst
         replace hs_p2 := hs_p2.step hst
         replace hf6_1 := hf6_1.step hst
         replace hf9_1 := hf9_1.step hst
         replace hf12_1 := hf12_1.step hst
         replace hf15_1 := hf15_1.step hst
         replace hms := hms.ev he43
         replace hev := hev.ext he43
         clear hpk hsb hsb0
         refine x_u 2 [(149, .bool x42), (150, .bool x42)] ?_
         refine x_if 150 x42 rfl h (fun h => ?_) (fun h => ?_)
         · refine x_u 5 [(151, Vi x11.2), (152, Vi x14.2), (153, .bool (x11.2 == x14.2)), (154, .bool (x11.2 == x14.2)), (155, .bool (x11.2 == x14.2))] ?_
           refine x_if 155 (x11.2 == x14.2) rfl h (fun h => ?_) (fun h => ?_)
           · refine x_u 5 [(156, Vi x17.1), (157, Vi x19.1), (158, .bool (x17.1 == x19.1)), (159, .bool (x17.1 == x19.1)), (160, .bool (x17.1 == x19.1))] ?_
             refine x_if 160 (x17.1 == x19.1) rfl h (fun h => ?_) (fun h => ?_)
             · refine x_u 5 [(161, Vi x17.2), (162, Vi x19.2), (163, .bool (x17.2 == x19.2)), (164, .bool (x17.2 == x19.2)), (14, .bool (x17.2 == x19.2))] ?_
               refine x_ek ?_
               refine c_norm [(14, .bool (x17.2 == x19.2))] ⟨rfl, trivial⟩ (fun J => ?_)
               refine c_ret ?_
               refine r_ret (r_vals [.bool (x17.2 == x19.2)] ⟨rfl, trivial⟩ ?_)
               have hx := some_inj h
               subst hx
               have hmr : MS w43 [M] := hms.pick [some 0] _ rfl
               have hsu : ∀ x ∈ fl [M], x ∈ fl [M] := pick_sub [some 0] _ rfl
               exact ⟨rfl, hev⟩
             refine x_u 5 [(161, undef), (162, undef), (163, undef), (164, .bool false), (14, .bool false)] ?_
             refine x_ek ?_
             refine c_norm [(14, .bool false)] ⟨rfl, trivial⟩ (fun J => ?_)
             refine c_ret ?_
             refine r_ret (r_vals [.bool false] ⟨rfl, trivial⟩ ?_)
             have hx := some_inj h
             subst hx
             have hmr : MS w43 [M] := hms.pick [some 0] _ rfl
             have hsu : ∀ x ∈ fl [M], x ∈ fl [M] := pick_sub [some 0] _ rfl
             exact ⟨rfl, hev⟩
           refine x_u 10 [(156, undef), (157, undef), (158, undef), (159, .bool false), (160, .bool false), (161, undef), (162, undef), (163, undef), (164, .bool false), (14, .bool false)] ?_
           refine x_ek ?_
           refine c_norm [(14, .bool false)] ⟨rfl, trivial⟩ (fun J => ?_)
           refine c_ret ?_
           refine r_ret (r_vals [.bool false] ⟨rfl, trivial⟩ ?_)
           have hx := some_inj h
           subst hx
           have hmr : MS w43 [M] := hms.pick [some 0] _ rfl
           have hsu : ∀ x ∈ fl [M], x ∈ fl [M] := pick_sub [some 0] _ rfl
           exact ⟨rfl, hev⟩
         refine x_u 15 [(151, undef), (152, undef), (153, undef), (154, .bool false), (155, .bool false), (156, undef), (157, undef), (158, undef), (159, .bool false), (160, .bool false), (161, undef), (162, undef), (163, undef), (164, .bool false), (14, .bool false)] ?_
         refine x_ek ?_
         refine c_norm [(14, .bool false)] ⟨rfl, trivial⟩ (fun J => ?_)
         refine c_ret ?_
         refine r_ret (r_vals [.bool false] ⟨rfl, trivial⟩ ?_)
         have hx := some_inj h
         subst hx
         have hmr : MS w43 [M] := hms.pick [some 0] _ rfl
         have hsu : ∀ x ∈ fl [M], x ∈ fl [M] := pick_sub [some 0] _ rfl
         exact ⟨rfl, hev⟩
       refine x_u 20 [(146, undef), (147, undef), (148, undef), (149, .bool false), (150, .bool false), (151, undef), (152, undef), (153, undef), (154, .bool false), (155, .bool false), (156, undef), (157, undef), (158, undef), (159, .bool false), (160, .bool false), (161, undef), (162, undef), (163, undef), (164, .bool false), (14, .bool false)] ?_
       refine x_ek ?_
       refine c_norm [(14, .bool false)] ⟨rfl, trivial⟩ (fun J => ?_)
       refine c_ret ?_
       refine r_ret (r_vals [.bool false] ⟨rfl, trivial⟩ ?_)
       have hx := some_inj h
       subst hx
       have hmr : MS w41 [M] := hms.pick [some 0] _ rfl
       have hsu : ∀ x ∈ fl [M], x ∈ fl [M] := pick_sub [some 0] _ rfl
       exact ⟨rfl, hev⟩
     refine x_u 25 [(141, undef), (142, undef), (143, undef), (144, .bool false), (145, .bool false), (146, undef), (147, undef), (148, undef), (149, .bool false), (150, .bool false), (151, undef), (152, undef), (153, undef), (154, .bool false), (155, .bool false), (156, undef), (157, undef), (158, undef), (159, .bool false), (160, .bool false), (161, undef), (162, undef), (163, undef), (164, .bool false), (14, .bool false)] ?_
     refine x_ek ?_
     refine c_norm [(14, .bool false)] ⟨rfl, trivial⟩ (fun J => ?_)
     refine c_ret ?_
     refine r_ret (r_vals [.bool false] ⟨rfl, trivial⟩ ?_)
     have hx := some_inj h
     subst hx
     have hmr : MS w41 [M] := hms.pick [some 0] _ rfl
     have hsu : ∀ x ∈ fl [M], x ∈ fl [M] := pick_sub [some 0] _ rfl
     exact ⟨rfl, hev⟩
   refine x_u 30 [(136, undef), (137, undef), (138, undef), (139, .bool false), (140, .bool false), (141, undef), (142, undef), (143, undef), (144, .bool false), (145, .bool false), (146, undef), (147, undef), (148, undef), (149, .bool false), (150, .bool false), (151, undef), (152, undef), (153, undef), (154, .bool false), (155, .bool false), (156, undef), (157, undef), (158, undef), (159, .bool false), (160, .bool false), (161, undef), (162, undef), (163, undef), (164, .bool false), (14, .bool false)] ?_
   refine x_ek ?_
   refine c_norm [(14, .bool false)] ⟨rfl, trivial⟩ (fun J => ?_)
   refine c_ret ?_
   refine r_ret (r_vals [.bool false] ⟨rfl, trivial⟩ ?_)
   have hx := some_inj h
   subst hx
   have hmr : MS w41 [M] := hms.pick [some 0] _ rfl
   have hsu : ∀ x ∈ fl [M], x ∈ fl [M] := pick_sub [some 0] _ rfl
   exact ⟨rfl, hev⟩
 refine x_u 35 [(131, undef), (132, undef), (133, undef), (134, .bool false), (135, .bool false), (136, undef), (137, undef), (138, undef), (139, .bool false), (140, .bool false), (141, undef), (142, undef), (143, undef), (144, .bool false), (145, .bool false), (146, undef), (147, undef), (148, undef), (149, .bool false), (150, .bool false), (151, undef), (152, undef), (153, undef), (154, .bool false), (155, .bool false), (156, undef), (157, undef), (158, undef), (159, .bool false), (160, .bool false), (161, undef), (162, undef), (163, undef), (164, .bool false), (14, .bool false)] ?_
 refine x_ek ?_
 refine c_norm [(14, .bool false)] ⟨rfl, trivial⟩ (fun J => ?_)
 refine c_ret ?_
 refine r_ret (r_vals [.bool false] ⟨rfl, trivial⟩ ?_)
 have hx := some_inj h
 subst hx
 have hmr : MS w39 [M] := hms.pick [some 0] _ rfl
 have hsu : ∀ x ∈ fl [M], x ∈ fl [M] := pick_sub [some 0] _ rfl
 exact ⟨rfl, hev⟩
end Go.Proofs.Ytgeceohdppecgaa
