/- Walks, printed by program: each function returns what the partial function of the same name returns. Conditions: those of each theorem. -/
import Derived.Test.YtcignnfdpgeogaaGT
import Derived.Test.YtcignnfdpgeogaaGcertificate
import Derived.Test.YtcignnfdpgeogaaGgen
import Derived.Test.YtcignnfdpgeogaaGlaw15sane
import Derived.Test.YtcignnfdpgeogaaGr11
set_option linter.unusedVariables false
set_option linter.unusedSimpArgs false
set_option maxRecDepth 4000
namespace Go.Proofs.Ytcignnfdpgeogaa
open Go Go.V Go.Proofs
def law15_CertificateRefuses_L45 (x7 : ((List (Int × Int × Int × Int)) × Int) × Int) (x13 : ((Int × (List Int)) × (List Int)) × Int) (t68__s68_l43 : Int) (s : Int) : Option (Step Int (Unit ⊕ Unit)) :=
match s with
| t75__s75_l45 =>
(if (decide (t75__s75_l45 < ((x13.1.1.2).length : Int))) = true then
((r11_Kind x7.1.1 x7.1.2 t75__s75_l45 t68__s68_l43).bind fun x48 =>
(if (x48 == 0) = true then
some (.next (IntKind.i64.wrap (t75__s75_l45 + 1)))
else
((idx x13.1.1.2 t75__s75_l45).bind fun x50 =>
((idx x13.1.1.2 t68__s68_l43).bind fun x52 =>
((r11_Strict x7.1.1 x7.1.2 t75__s75_l45 t68__s68_l43).bind fun x54 =>
(if ((IntKind.i64.wrap (x50 + x54)) != x52) = true then
some (.next (IntKind.i64.wrap (t75__s75_l45 + 1)))
else
((idx x13.1.1.2 t68__s68_l43).bind fun x56 =>
(if (x56 == 0) = true then
some (.next (IntKind.i64.wrap (t75__s75_l45 + 1)))
else
(if ([] : List Int).length + x13.1.1.2.length ≤ 4294967296 then
((idx x13.1.1.2 t68__s68_l43).bind fun x65 =>
((idx (([] : List Int) ++ x13.1.1.2) t68__s68_l43).bind fun x67 =>
((certificate_Check x7.1.1 x7.1.2 x13.1.1.1 ((([] : List Int) ++ x13.1.1.2).set (Int.toNat t68__s68_l43) (IntKind.i64.wrap (x65 - 1))) x13.1.2).bind fun x70 =>
(if (x70 != 12) = true then
(if (x70 != 1) = true then
some (.done (.inl ()))
else
some (.next (IntKind.i64.wrap (t75__s75_l45 + 1))))
else
some (.next (IntKind.i64.wrap (t75__s75_l45 + 1)))))))
else none)))))))))
else
some (.done (.inr ())))

def law15_CertificateRefuses_L43 (x7 : ((List (Int × Int × Int × Int)) × Int) × Int) (x13 : ((Int × (List Int)) × (List Int)) × Int) (s : Int) : Option (Step Int (Unit ⊕ Unit)) :=
match s with
| t68__s68_l43 =>
(if (decide (t68__s68_l43 < ((x13.1.1.2).length : Int))) = true then
((loop (law15_CertificateRefuses_L45 x7 x13 t68__s68_l43) 0).bind fun d => match d with
| (.inl _) => some (.done (.inl ()))
| (.inr _) => some (.next (IntKind.i64.wrap (t68__s68_l43 + 1))))
else
some (.done (.inr ())))

def law15_CertificateRefuses_L33 (p1 : List Int) (x7 : ((List (Int × Int × Int × Int)) × Int) × Int) (x13 : ((Int × (List Int)) × (List Int)) × Int) (s : (List Int) × Int) : Option (Step ((List Int) × Int) (Unit ⊕ Unit)) :=
match s with
| (d34_l33, t53__s53_l33) =>
(if (decide (t53__s53_l33 < ((([x13.1.2, [], p1] : List (List Int))).length : Int))) = true then
((idx ([x13.1.2, [], p1] : List (List Int)) t53__s53_l33).bind fun x36 =>
((certificate_Check x7.1.1 x7.1.2 (IntKind.i64.wrap (x13.1.1.1 + 1)) x13.1.1.2 x36).bind fun x41 =>
(if (x41 == 0) = true then
some (.done (.inl ()))
else
some (.next (x36, IntKind.i64.wrap (t53__s53_l33 + 1))))))
else
some (.done (.inr ())))

def law15_CertificateRefuses_J21 (p1 : List Int) (x7 : ((List (Int × Int × Int × Int)) × Int) × Int) (x13 : ((Int × (List Int)) × (List Int)) × Int) (t31__s31_j21 : Bool) : Option Bool :=
(if t31__s31_j21 = true then
(if (x13.2 == 0) = true then
((law15_sane).bind fun x22 =>
some x22)
else
(if (x13.2 == 15) = true then
((law15_sane).bind fun x24 =>
some x24)
else
some false))
else
((loop (law15_CertificateRefuses_L33 p1 x7 x13) (x13.1.2, 0)).bind fun d => match d with
| (.inl _) => some false
| (.inr _) => ((loop (law15_CertificateRefuses_L43 x7 x13) 0).bind fun d => match d with
| (.inl _) => some false
| (.inr _) => ((law15_sane).bind fun x72 =>
some x72))))

def law15_CertificateRefuses (p0 : List Int) (p1 : List Int) : Option Bool :=
((gen_New p0).bind fun x3 =>
((gen_Maker_Job x3.1 x3.2 12).bind fun x7 =>
((certificate_Make x7.1.1 x7.1.2).bind fun x13 =>
(if (x13.2 != 0) = true then
law15_CertificateRefuses_J21 p1 x7 x13 true
else
law15_CertificateRefuses_J21 p1 x7 x13 (decide (((p1).length : Int) > 40))))))

theorem law15_CertificateRefuses_w (a_p0 : Option Addr) (c_p0 : Nat) (p0 : List Int) (a_p1 : Option Addr) (c_p1 : Nat) (p1 : List Int) (r : Bool) (w : World) (M : List Nat) (hms : MS w [M]) (hs_p0 : SlR (eInt .i64) w (fl [M]) a_p0 c_p0 p0) (hs_p1 : SlR (eInt .i64) w (fl [M]) a_p1 c_p1 p1) (h : law15_CertificateRefuses p0 p1 = some r) : CallVC Try.prog 4 [.slice a_p0 (p0).length c_p0, .slice a_p1 (p1).length c_p1] w fun v w' => v = .bool r ∧ Ev [] w w' := by
 refine calls_vc hmx Try.func4 (by kernel_rfl) rfl (rs := [.tmp 4]) rfl (by kernel_rfl) (args := [.slice a_p0 (p0).length c_p0, .slice a_p1 (p1).length c_p1]) rfl ?_
 have hev : Ev [] w w := Ev.refl _ _
 have hfr : FR w.heap.size [] := FR.nil _
 refine c_sp ?_
 refine x_pure 1 [(4, .bool false)] _ _ _ (by kernel_rfl) ?_
 refine x_ek ?_
 refine c_sp ?_
 refine x_pure 1 [(16, .slice a_p0 (p0).length c_p0)] _ _ _ (by kernel_rfl) ?_
 obtain ⟨x3, hx, h⟩ := bind_some h
 have hpk : MS w ([] ++ [M]) := hms.pick [some 0] _ rfl
 have hsb0 : ∀ x ∈ fl ([] ++ [M]), x ∈ fl [M] := pick_sub [some 0] _ rfl
 have hsb : ∀ x ∈ fl ([] ++ [(fl [M])]), x ∈ fl [M] := fun x hx => hsb0 x (fl_unfold x hx)
 have hcall := gen_New_w a_p0 c_p0 p0 _ w (fl [M]) (MS.fold (P := []) hpk) (hs_p0.sub hsb) hx
 refine x_call 8 #[] #[] [.slice a_p0 (p0).length c_p0] _ rfl rfl rfl rfl hcall ?_
 rintro v w4 ⟨b0_4, a1_4, c1_4, rfl, he4, hmn4, hfn4, hf4_1, hf4_2⟩
 clear hcall hx
 refine inl1 ?_
 have hpk2 : MS w ([] ++ [M]) := hms.pick [some 0] _ rfl
 have hsb2 : ∀ x ∈ fl ([] ++ [M]), x ∈ fl [M] := pick_sub [some 0] _ rfl
 have hst0 := Stp.call (LS := [M]) (res := [[b0_4]]) (par := []) (R := [M]) he4 (fun b hb => hsb2 b (fl_left' (P := []) b hb)) hfn4 (NP.init _ _) (fun x hx => hsb2 x (fl_right' (P := []) x hx))
 have hsn : ∀ x ∈ fl [[b0_4], M], x ∈ fl ([[b0_4]] ++ ([] ++ [M])) := pick_sub [some 0, some 1] _ rfl
 have hst := hst0.res hsn
 replace hs_p0 := hs_p0.step hst
 replace hs_p1 := hs_p1.step hst
 replace hms : MS w4 [[b0_4], M] := (MS.call (P := []) (R := [M]) (res := [[b0_4]]) (par := []) hpk2 he4 hmn4 hfn4 (NP.init _ _)).pick [some 0, some 1] _ rfl
 have hfr2 : FR w.heap.size [[b0_4]] := (FR.cons (fun b hb => Nat.le_trans hev.size (hfn4.at 0 rfl b hb)) (FR.nil _))
 replace hev := hev.ext he4
 replace hfr := hfr2
 clear hfr2
 have hsp : ∀ x ∈ fl [[b0_4], M], x ∈ fl ([[b0_4]] ++ ([] ++ [(fl [M])])) := fun x hx => fl_tot (res := [[b0_4]]) (par := []) (R := [M]) x (hsn x hx)
 replace hf4_2 := hf4_2.sub hsp
 clear hpk hsb hsb0 hpk2 hsb2 hst0 hsn hst
 refine x_pure 1 [(5, Vp b0_4 0)] _ _ _ (by kernel_rfl) ?_
 refine x_ek ?_
 refine c_sp ?_
 refine x_pure 1 [(18, Vp b0_4 0)] _ _ _ (by kernel_rfl) ?_
 obtain ⟨x7, hx, h⟩ := bind_some h
 have hpk : MS w4 ([[b0_4]] ++ [M]) := hms.pick [some 0, some 1] _ rfl
 have hsb0 : ∀ x ∈ fl ([[b0_4]] ++ [M]), x ∈ fl [[b0_4], M] := pick_sub [some 0, some 1] _ rfl
 have hsb : ∀ x ∈ fl ([[b0_4]] ++ [(fl [M])]), x ∈ fl [[b0_4], M] := fun x hx => hsb0 x (fl_unfold x hx)
 have hcall := gen_Maker_Job_w b0_4 a1_4 c1_4 x3.1 x3.2 12 _ w4 (fl [M]) (hpk.fold (P := [[b0_4]])) (hf4_2.sub hsb) hf4_1 hx
 refine x_call 9 #[] #[] [Vp b0_4 0, Vi 12] _ rfl rfl rfl rfl hcall ?_
 rintro v w8 ⟨a0_8, c0_8, rfl, he8, hp8_0, hmn8, hfn8, hf8_1⟩
 clear hcall hx
 refine inl1 ?_
 have hpk2 : MS w4 ([[b0_4]] ++ [M]) := hms.pick [some 0, some 1] _ rfl
 have hsb2 : ∀ x ∈ fl ([[b0_4]] ++ [M]), x ∈ fl [[b0_4], M] := pick_sub [some 0, some 1] _ rfl
 have hst0 := Stp.call (LS := [[b0_4], M]) (res := [blk a0_8]) (par := [[b0_4]]) (R := [M]) he8 (fun b hb => hsb2 b (fl_left' (P := [[b0_4]]) b hb)) hfn8 (NP.init _ _) (fun x hx => hsb2 x (fl_right' (P := [[b0_4]]) x hx))
 have hsn : ∀ x ∈ fl [blk a0_8, [b0_4], M], x ∈ fl ([blk a0_8] ++ ([[b0_4]] ++ [M])) := pick_sub [some 0, some 1, some 2] _ rfl
 have hst := hst0.res hsn
 replace hs_p1 := hs_p1.step hst
 replace hf4_2 := hf4_2.step hst
 replace hms : MS w8 [blk a0_8, [b0_4], M] := (MS.call (P := [[b0_4]]) (R := [M]) (res := [blk a0_8]) (par := [[b0_4]]) hpk2 he8 hmn8 hfn8 (NP.init _ _)).pick [some 0, some 1, some 2] _ rfl
 have hPf : ∀ b ∈ fl [[b0_4]], w.heap.size ≤ b := FR.mem (ls := [[b0_4]]) (hfr.pick [some 0] _ rfl)
 have hfr2 : FR w.heap.size [blk a0_8, [b0_4]] := (FR.cons (fun b hb => Nat.le_trans hev.size (hfn8.at 0 rfl b hb)) (FR.cons (hfr.at 0 rfl) (FR.nil _)))
 replace hev := hev.then he8 (fun b hb => .inr (hPf b hb))
 replace hfr := hfr2
 clear hfr2
 replace hf4_1 := hp8_0
 replace hf8_1 := OwnS.plain (M' := fl [blk a0_8, [b0_4], M]) (plain_prod (plain_int _) (plain_prod (plain_int _) (plain_prod (plain_int _) (plain_int _)))) hf8_1
 clear hpk hsb hsb0 hpk2 hsb2 hst0 hsn hst
 have hpk : MS w8 [[b0_4], M] := hms.pick [some 1, some 2] _ rfl
 have hsu : ∀ x ∈ fl [[b0_4], M], x ∈ fl [blk a0_8, [b0_4], M] := pick_sub [some 1, some 2] _ rfl
 replace hs_p1 := hs_p1.sub hsu
 replace hf4_2 := hf4_2.sub hsu
 replace hf8_1 := hf8_1.ro hsu (pick_out hms 0 rfl [some 1, some 2] [[b0_4], M] rfl rfl)
 replace hms := hpk
 replace hfr : FR w.heap.size [[b0_4]] := hfr.pick [some 1] _ rfl
 clear hpk hsu
 refine x_alloc (z := .agg #[.slice none 0 0, Vi 0]) rfl rfl (by kernel_rfl) (fun b10 w10 hq10 hb10 he10 hz10 => ?_)
 replace hb10 : w10.heap[b10]? = some (.cells #[.slice none 0 0, Vi 0] 25 (0, 0)) := hb10
 refine inl1 ?_
 have hst := Stp.box (ls := [[b0_4], M]) he10 hq10
 replace hs_p1 := hs_p1.step hst
 replace hf4_1 := he10.box hf4_1 nn
 replace hf4_2 := hf4_2.step hst
 replace hf8_1 := hf8_1.step hst
 replace hms := hms.box he10 hq10 hb10
 replace hfr := hfr.box hev.size hq10
 replace hev := hev.ext he10
 obtain ⟨w12, hr12, hb12, he12⟩ := store_boxagg 0 [.slice a0_8 (x7.1.1).length c0_8, Vi x7.1.2] #[.slice a0_8 (x7.1.1).length c0_8, Vi x7.1.2] tagg25 hb10 rfl rfl rfl
 refine x_store w12 (xv := Vp b10 0) (yv := .agg #[.slice a0_8 (x7.1.1).length c0_8, Vi x7.1.2]) rfl rfl rfl rfl hr12 ?_
 refine inl1 ?_
 have hst := Stp.ev' (ls := [[b10], [b0_4], M]) he12 (mem_flat 0 rfl)
 replace hs_p1 := hs_p1.step hst
 replace hf4_1 := he12.box hf4_1 (hms.apart 1 0 rfl rfl rfl _ mem1)
 replace hf4_2 := hf4_2.step hst
 replace hf8_1 := hf8_1.step hst
 replace hms := hms.ev he12
 replace hev := hev.then he12 (fun b hb => .inr (hfr.at 0 rfl b hb))
 replace hb10 := hb12
 refine x_ek ?_
 refine c_sp ?_
 refine x_load (xv := Vp b10 0) (.agg #[.slice a0_8 (x7.1.1).length c0_8, Vi x7.1.2]) rfl rfl rfl (reads_boxagg 0 [.slice a0_8 (x7.1.1).length c0_8, Vi x7.1.2] tagg25 hb10 nn rfl) ?_
 obtain ⟨x13, hx, h⟩ := bind_some h
 have hpk : MS w12 ([] ++ [[b10], [b0_4], M]) := hms.pick [some 0, some 1, some 2] _ rfl
 have hsb0 : ∀ x ∈ fl ([] ++ [[b10], [b0_4], M]), x ∈ fl [[b10], [b0_4], M] := pick_sub [some 0, some 1, some 2] _ rfl
 have hsb : ∀ x ∈ fl ([] ++ [(fl [[b10], [b0_4], M])]), x ∈ fl [[b10], [b0_4], M] := fun x hx => hsb0 x (fl_unfold x hx)
 have hcall := certificate_Make_w a0_8 c0_8 x7.1.1 x7.1.2 _ w12 (fl [[b10], [b0_4], M]) (MS.fold (P := []) hpk) (hf8_1.sub hsb) hx
 refine x_call 10 #[] #[] [.agg #[.slice a0_8 (x7.1.1).length c0_8, Vi x7.1.2]] _ rfl rfl rfl rfl hcall ?_
 rintro v w14 ⟨a0_14, c0_14, a2_14, c2_14, rfl, he14, hmn14, hfn14, hf14_1, hf14_2⟩
 clear hcall hx
 refine inl1 ?_
 have hpk2 : MS w12 ([] ++ [[b10], [b0_4], M]) := hms.pick [some 0, some 1, some 2] _ rfl
 have hsb2 : ∀ x ∈ fl ([] ++ [[b10], [b0_4], M]), x ∈ fl [[b10], [b0_4], M] := pick_sub [some 0, some 1, some 2] _ rfl
 have hst0 := Stp.call (LS := [[b10], [b0_4], M]) (res := [blk a0_14, blk a2_14]) (par := []) (R := [[b10], [b0_4], M]) he14 (fun b hb => hsb2 b (fl_left' (P := []) b hb)) hfn14 (NP.init _ _) (fun x hx => hsb2 x (fl_right' (P := []) x hx))
 have hsn : ∀ x ∈ fl [blk a0_14, blk a2_14, [b10], [b0_4], M], x ∈ fl ([blk a0_14, blk a2_14] ++ ([] ++ [[b10], [b0_4], M])) := pick_sub [some 0, some 1, some 2, some 3, some 4] _ rfl
 have hst := hst0.res hsn
 replace hs_p1 := hs_p1.step hst
 replace hf4_1 := he14.box hf4_1 ((MS.outs (P := []) hpk2 1 rfl) _ mem1)
 replace hf4_2 := hf4_2.step hst
 replace hf8_1 := hf8_1.step hst
 replace hb10 := he14.box hb10 ((MS.outs (P := []) hpk2 0 rfl) _ mem1)
 replace hms : MS w14 [blk a0_14, blk a2_14, [b10], [b0_4], M] := (MS.call (P := []) (R := [[b10], [b0_4], M]) (res := [blk a0_14, blk a2_14]) (par := []) hpk2 he14 hmn14 hfn14 (NP.init _ _)).pick [some 0, some 1, some 2, some 3, some 4] _ rfl
 have hfr2 : FR w.heap.size [blk a0_14, blk a2_14, [b10], [b0_4]] := (FR.cons (fun b hb => Nat.le_trans hev.size (hfn14.at 0 rfl b hb)) (FR.cons (fun b hb => Nat.le_trans hev.size (hfn14.at 1 rfl b hb)) (FR.cons (hfr.at 0 rfl) (FR.cons (hfr.at 1 rfl) (FR.nil _)))))
 replace hev := hev.ext he14
 replace hfr := hfr2
 clear hfr2
 replace hf14_1 := OwnS.plain (M' := fl [blk a0_14, blk a2_14, [b10], [b0_4], M]) (plain_int _) hf14_1
 replace hf14_2 := OwnS.plain (M' := fl [blk a0_14, blk a2_14, [b10], [b0_4], M]) (plain_int _) hf14_2
 clear hpk hsb hsb0 hpk2 hsb2 hst0 hsn hst
 have hpk : MS w14 [blk a2_14, [b10], [b0_4], M] := hms.pick [some 1, some 2, some 3, some 4] _ rfl
 have hsu : ∀ x ∈ fl [blk a2_14, [b10], [b0_4], M], x ∈ fl [blk a0_14, blk a2_14, [b10], [b0_4], M] := pick_sub [some 1, some 2, some 3, some 4] _ rfl
 replace hs_p1 := hs_p1.sub hsu
 replace hf4_2 := hf4_2.sub hsu
 replace hf8_1 := hf8_1.sub hsu
 replace hf14_1 := hf14_1.ro hsu (pick_out hms 0 rfl [some 1, some 2, some 3, some 4] [blk a2_14, [b10], [b0_4], M] rfl rfl)
 replace hf14_2 := hf14_2.sub hsu
 replace hms := hpk
 replace hfr : FR w.heap.size [blk a2_14, [b10], [b0_4]] := hfr.pick [some 1, some 2, some 3] _ rfl
 clear hpk hsu
 have hpk : MS w14 [[b10], [b0_4], M] := hms.pick [some 1, some 2, some 3] _ rfl
 have hsu : ∀ x ∈ fl [[b10], [b0_4], M], x ∈ fl [blk a2_14, [b10], [b0_4], M] := pick_sub [some 1, some 2, some 3] _ rfl
 replace hs_p1 := hs_p1.sub hsu
 replace hf4_2 := hf4_2.sub hsu
 replace hf8_1 := hf8_1.sub hsu
 replace hf14_1 := hf14_1.sub hsu
 replace hf14_2 := hf14_2.ro hsu (pick_out hms 0 rfl [some 1, some 2, some 3] [[b10], [b0_4], M] rfl rfl)
 replace hms := hpk
 replace hfr : FR w.heap.size [[b10], [b0_4]] := hfr.pick [some 1, some 2] _ rfl
 clear hpk hsu
 refine x_pure 3 [(20, .tuple #[.agg #[Vi x13.1.1.1, .slice a0_14 (x13.1.1.2).length c0_14, .slice a2_14 (x13.1.2).length c2_14], Vi x13.2]), (23, .agg #[Vi x13.1.1.1, .slice a0_14 (x13.1.1.2).length c0_14, .slice a2_14 (x13.1.2).length c2_14]), (24, Vi x13.2)] _ _ _ (by kernel_rfl) ?_
 refine x_alloc (z := .agg #[Vi 0, .slice none 0 0, .slice none 0 0]) rfl rfl (by kernel_rfl) (fun b17 w17 hq17 hb17 he17 hz17 => ?_)
 replace hb17 : w17.heap[b17]? = some (.cells #[Vi 0, .slice none 0 0, .slice none 0 0] 29 (0, 0)) := hb17
 refine inl1 ?_
 have hst := Stp.box (ls := [[b10], [b0_4], M]) he17 hq17
 replace hs_p1 := hs_p1.step hst
 replace hf4_1 := he17.box hf4_1 nn
 replace hf4_2 := hf4_2.step hst
 replace hf8_1 := hf8_1.step hst
 replace hb10 := he17.box hb10 nn
 replace hf14_1 := hf14_1.step hst
 replace hf14_2 := hf14_2.step hst
 replace hms := hms.box he17 hq17 hb17
 replace hfr := hfr.box hev.size hq17
 replace hev := hev.ext he17
 obtain ⟨w19, hr19, hb19, he19⟩ := store_boxagg 0 [Vi x13.1.1.1, .slice a0_14 (x13.1.1.2).length c0_14, .slice a2_14 (x13.1.2).length c2_14] #[Vi x13.1.1.1, .slice a0_14 (x13.1.1.2).length c0_14, .slice a2_14 (x13.1.2).length c2_14] tagg29 hb17 rfl rfl rfl
 refine x_store w19 (xv := Vp b17 0) (yv := .agg #[Vi x13.1.1.1, .slice a0_14 (x13.1.1.2).length c0_14, .slice a2_14 (x13.1.2).length c2_14]) rfl rfl rfl rfl hr19 ?_
 refine inl1 ?_
 have hst := Stp.ev' (ls := [[b17], [b10], [b0_4], M]) he19 (mem_flat 0 rfl)
 replace hs_p1 := hs_p1.step hst
 replace hf4_1 := he19.box hf4_1 (hms.apart 2 0 rfl rfl rfl _ mem1)
 replace hf4_2 := hf4_2.step hst
 replace hf8_1 := hf8_1.step hst
 replace hb10 := he19.box hb10 (hms.apart 1 0 rfl rfl rfl _ mem1)
 replace hf14_1 := hf14_1.step hst
 replace hf14_2 := hf14_2.step hst
 replace hms := hms.ev he19
 replace hev := hev.then he19 (fun b hb => .inr (hfr.at 0 rfl b hb))
 replace hb17 := hb19
 refine x_pure 1 [(8, Vi x13.2)] _ _ _ (by kernel_rfl) ?_
 refine x_ek ?_
 refine c_norm [(1, .slice a_p1 (p1).length c_p1), (6, Vp b10 0), (7, Vp b17 0), (8, Vi x13.2)] ⟨rfl, rfl, rfl, rfl, trivial⟩ (fun J => ?_)
 refine c_seq ?_
 refine c_join (σ := Bool) (fun s => match s with | t31__s31_j21 => [(1, .slice a_p1 (p1).length c_p1), (6, Vp b10 0), (7, Vp b17 0), (8, Vi x13.2), (31, .bool t31__s31_j21)]) (fun s w' => match s with | t31__s31_j21 => law15_CertificateRefuses_J21 p1 x7 x13 t31__s31_j21 = some r ∧ Ev [] w w' ∧ MS w' [[b10], [b17], M] ∧ FR w.heap.size [[b10], [b17]] ∧ SlR (eInt .i64) w' (fl [[b10], [b17], M]) a_p1 c_p1 p1 ∧ SlR (eIt4) w' (fl [[b10], [b17], M]) a0_8 c0_8 x7.1.1 ∧ w'.heap[b10]? = some (.cells #[.slice a0_8 (x7.1.1).length c0_8, Vi x7.1.2] 25 (0, 0)) ∧ SlR (eInt .i64) w' (fl [[b10], [b17], M]) a0_14 c0_14 x13.1.1.2 ∧ SlR (eInt .i64) w' (fl [[b10], [b17], M]) a2_14 c2_14 x13.1.2 ∧ w'.heap[b17]? = some (.cells #[Vi x13.1.1.1, .slice a0_14 (x13.1.1.2).length c0_14, .slice a2_14 (x13.1.2).length c2_14] 29 (0, 0))) ?_ ?_
 · refine c_plain ?_
   refine x_pure 3 [(25, Vi x13.2), (26, .bool (x13.2 != 0)), (27, .bool (x13.2 != 0))] _ _ _ (by kernel_rfl) ?_
   refine x_split 27 (x13.2 != 0) rfl (fun hb => ?_) (fun hb => ?_)
   · replace h := ite_t hb h
     refine x_pure 4 [(28, undef), (29, undef), (30, undef), (31, .bool true)] _ _ _ (by kernel_rfl) ?_
     refine x_end rfl ?_
     have hpk : MS w19 [[b10], [b17], M] := hms.pick [some 1, some 0, some 3] _ rfl
     have hsu : ∀ x ∈ fl [[b10], [b17], M], x ∈ fl [[b17], [b10], [b0_4], M] := pick_sub [some 1, some 0, some 3] _ rfl
     replace hs_p1 := hs_p1.sub hsu
     replace hf8_1 := hf8_1.sub hsu
     replace hf14_1 := hf14_1.sub hsu
     replace hf14_2 := hf14_2.sub hsu
     replace hms := hpk
     replace hfr : FR w.heap.size [[b10], [b17]] := hfr.pick [some 1, some 0] _ rfl
     clear hpk hsu
     exact k_then ⟨true, ⟨rfl, rfl, rfl, rfl, rfl, trivial⟩, h, hev, hms, hfr, hs_p1, hf8_1, hb10, hf14_1, hf14_2, hb17⟩
   replace h := ite_f hb h
   refine x_pure 1 [(28, .slice a_p1 (p1).length c_p1)] _ _ _ (by kernel_rfl) ?_
   refine x_len (vs := [.slice a_p1 (p1).length c_p1]) (Vi ((p1).length : Int)) rfl rfl rfl (reads_len tsl22 _ _ _ _ _) ?_
   refine x_pure 2 [(30, .bool (decide (((p1).length : Int) > 40))), (31, .bool (decide (((p1).length : Int) > 40)))] _ _ _ (by kernel_rfl) ?_
   refine x_end rfl ?_
   have hpk : MS w19 [[b10], [b17], M] := hms.pick [some 1, some 0, some 3] _ rfl
   have hsu : ∀ x ∈ fl [[b10], [b17], M], x ∈ fl [[b17], [b10], [b0_4], M] := pick_sub [some 1, some 0, some 3] _ rfl
   replace hs_p1 := hs_p1.sub hsu
   replace hf8_1 := hf8_1.sub hsu
   replace hf14_1 := hf14_1.sub hsu
   replace hf14_2 := hf14_2.sub hsu
   replace hms := hpk
   replace hfr : FR w.heap.size [[b10], [b17]] := hfr.pick [some 1, some 0] _ rfl
   clear hpk hsu
   exact k_then ⟨decide (((p1).length : Int) > 40), ⟨rfl, rfl, rfl, rfl, rfl, trivial⟩, h, hev, hms, hfr, hs_p1, hf8_1, hb10, hf14_1, hf14_2, hb17⟩
 rintro t31__s31_j21 J wj21 ⟨h, hev, hms, hfr, hs_p1, hf8_1, hb10, hf14_1, hf14_2, hb17⟩
 refine c_cond t31__s31_j21 rfl (fun hb => ?_) (fun hb => ?_)
 · replace h := ite_t hb h
   refine c_sp ?_
   refine x_pure 3 [(32, Vi x13.2), (33, .bool (x13.2 == 0)), (34, .bool (x13.2 == 0))] _ _ _ (by kernel_rfl) ?_
   refine x_split 34 (x13.2 == 0) rfl (fun hb => ?_) (fun hb => ?_)
   · replace h := ite_t hb h
     refine x_pure 4 [(35, undef), (36, undef), (37, .bool true), (38, .bool true)] _ _ _ (by kernel_rfl) ?_
     obtain ⟨x22, hx, h⟩ := bind_some h
     have hcall := law15_sane_w _ wj21 hx
     refine x_call 17 #[] #[] [] _ rfl rfl rfl rfl hcall ?_
     rintro v w23 ⟨rfl, he23⟩
     clear hcall hx
     refine inl1 ?_
     have hst := Stp.ext (ls := [[b10], [b17], M]) he23
     replace hs_p1 := hs_p1.step hst
     replace hb10 := he23.box hb10 nn
     replace hf8_1 := hf8_1.step hst
     replace hb17 := he23.box hb17 nn
     replace hf14_1 := hf14_1.step hst
     replace hf14_2 := hf14_2.step hst
     replace hms := hms.ev he23
     replace hev := hev.ext he23
     refine x_pure 2 [(40, .bool x22), (4, .bool x22)] _ _ _ (by kernel_rfl) ?_
     refine x_ek ?_
     refine c_norm [(4, .bool x22)] ⟨rfl, trivial⟩ (fun J => ?_)
     refine c_ret ?_
     refine k_then_ret ?_
     refine r_ret (r_vals [.bool x22] ⟨rfl, trivial⟩ ?_)
     have hx := some_inj h
     subst hx
     have hmr : MS w23 [M] := hms.pick [some 2] _ rfl
     have hsu : ∀ x ∈ fl [M], x ∈ fl [[b10], [b17], M] := pick_sub [some 2] _ rfl
     exact ⟨rfl, hev⟩
   replace h := ite_f hb h
   refine x_pure 4 [(35, Vi x13.2), (36, .bool (x13.2 == 15)), (37, .bool (x13.2 == 15)), (38, .bool (x13.2 == 15))] _ _ _ (by kernel_rfl) ?_
   refine x_split 38 (x13.2 == 15) rfl (fun hb => ?_) (fun hb => ?_)
   · replace h := ite_t hb h
     obtain ⟨x24, hx, h⟩ := bind_some h
     have hcall := law15_sane_w _ wj21 hx
     refine x_call 17 #[] #[] [] _ rfl rfl rfl rfl hcall ?_
     rintro v w25 ⟨rfl, he25⟩
     clear hcall hx
     refine inl1 ?_
     have hst := Stp.ext (ls := [[b10], [b17], M]) he25
     replace hs_p1 := hs_p1.step hst
     replace hb10 := he25.box hb10 nn
     replace hf8_1 := hf8_1.step hst
     replace hb17 := he25.box hb17 nn
     replace hf14_1 := hf14_1.step hst
     replace hf14_2 := hf14_2.step hst
     replace hms := hms.ev he25
     replace hev := hev.ext he25
     refine x_pure 2 [(40, .bool x24), (4, .bool x24)] _ _ _ (by kernel_rfl) ?_
     refine x_ek ?_
     refine c_norm [(4, .bool x24)] ⟨rfl, trivial⟩ (fun J => ?_)
     refine c_ret ?_
     refine k_then_ret ?_
     refine r_ret (r_vals [.bool x24] ⟨rfl, trivial⟩ ?_)
     have hx := some_inj h
     subst hx
     have hmr : MS w25 [M] := hms.pick [some 2] _ rfl
     have hsu : ∀ x ∈ fl [M], x ∈ fl [[b10], [b17], M] := pick_sub [some 2] _ rfl
     exact ⟨rfl, hev⟩
   replace h := ite_f hb h
   refine x_pure 3 [(39, undef), (40, .bool false), (4, .bool false)] _ _ _ (by kernel_rfl) ?_
   refine x_ek ?_
   refine c_norm [(4, .bool false)] ⟨rfl, trivial⟩ (fun J => ?_)
   refine c_ret ?_
   refine k_then_ret ?_
   refine r_ret (r_vals [.bool false] ⟨rfl, trivial⟩ ?_)
   have hx := some_inj h
   subst hx
   have hmr : MS wj21 [M] := hms.pick [some 2] _ rfl
   have hsu : ∀ x ∈ fl [M], x ∈ fl [[b10], [b17], M] := pick_sub [some 2] _ rfl
   exact ⟨rfl, hev⟩
 replace h := ite_f hb h
 refine c_skip ?_
 refine k_then ?_
 refine c_norm [(1, .slice a_p1 (p1).length c_p1), (6, Vp b10 0), (7, Vp b17 0)] ⟨rfl, rfl, rfl, trivial⟩ (fun J => ?_)
 refine c_sp ?_
 refine x_load (xv := Vp b17 0) (.agg #[Vi x13.1.1.1, .slice a0_14 (x13.1.1.2).length c0_14, .slice a2_14 (x13.1.2).length c2_14]) rfl rfl rfl (reads_boxagg 0 [Vi x13.1.1.1, .slice a0_14 (x13.1.1.2).length c0_14, .slice a2_14 (x13.1.2).length c2_14] tagg29 hb17 nn rfl) ?_
 refine x_alloc (z := .agg #[Vi 0, .slice none 0 0, .slice none 0 0]) rfl rfl (by kernel_rfl) (fun b26 w26 hq26 hb26 he26 hz26 => ?_)
 replace hb26 : w26.heap[b26]? = some (.cells #[Vi 0, .slice none 0 0, .slice none 0 0] 29 (0, 0)) := hb26
 refine inl1 ?_
 have hst := Stp.box (ls := [[b10], [b17], M]) he26 hq26
 replace hs_p1 := hs_p1.step hst
 replace hb10 := he26.box hb10 nn
 replace hf8_1 := hf8_1.step hst
 replace hb17 := he26.box hb17 nn
 replace hf14_1 := hf14_1.step hst
 replace hf14_2 := hf14_2.step hst
 replace hms := hms.box he26 hq26 hb26
 replace hfr := hfr.box hev.size hq26
 replace hev := hev.ext he26
 obtain ⟨w28, hr28, hb28, he28⟩ := store_boxagg 0 [Vi x13.1.1.1, .slice a0_14 (x13.1.1.2).length c0_14, .slice a2_14 (x13.1.2).length c2_14] #[Vi x13.1.1.1, .slice a0_14 (x13.1.1.2).length c0_14, .slice a2_14 (x13.1.2).length c2_14] tagg29 hb26 rfl rfl rfl
 refine x_store w28 (xv := Vp b26 0) (yv := .agg #[Vi x13.1.1.1, .slice a0_14 (x13.1.1.2).length c0_14, .slice a2_14 (x13.1.2).length c2_14]) rfl rfl rfl rfl hr28 ?_
 refine inl1 ?_
 have hst := Stp.ev' (ls := [[b26], [b10], [b17], M]) he28 (mem_flat 0 rfl)
 replace hs_p1 := hs_p1.step hst
 replace hb10 := he28.box hb10 (hms.apart 1 0 rfl rfl rfl _ mem1)
 replace hf8_1 := hf8_1.step hst
 replace hb17 := he28.box hb17 (hms.apart 2 0 rfl rfl rfl _ mem1)
 replace hf14_1 := hf14_1.step hst
 replace hf14_2 := hf14_2.step hst
 replace hms := hms.ev he28
 replace hev := hev.then he28 (fun b hb => .inr (hfr.at 0 rfl b hb))
 replace hb26 := hb28
 refine x_ek ?_
 refine c_sp ?_
 refine x_fieldAddr (xv := Vp b26 0) (Vp b26 0) rfl rfl rfl (reads_field tfld29_0 _ _) ?_
 refine x_fieldAddr (xv := Vp b26 0) (Vp b26 0) rfl rfl rfl (reads_field tfld27_0 _ _) ?_
 refine x_load (xv := Vp b26 0) (Vi x13.1.1.1) rfl rfl rfl (reads_box tcell3 hb26 nn 0 _ rfl) ?_
 refine x_pure 1 [(45, Vi (IntKind.i64.wrap (x13.1.1.1 + 1)))] _ _ _ (by kernel_rfl) ?_
 refine x_fieldAddr (xv := Vp b26 0) (Vp b26 0) rfl rfl rfl (reads_field tfld29_0 _ _) ?_
 refine x_fieldAddr (xv := Vp b26 0) (Vp b26 0) rfl rfl rfl (reads_field tfld27_0 _ _) ?_
 obtain ⟨w29, hr29, hb29, he29⟩ := store_box 0 (Vi (IntKind.i64.wrap (x13.1.1.1 + 1))) #[Vi (IntKind.i64.wrap (x13.1.1.1 + 1)), .slice a0_14 (x13.1.1.2).length c0_14, .slice a2_14 (x13.1.2).length c2_14] tcell3 hb26 rfl rfl rfl
 refine x_store w29 (xv := Vp b26 0) (yv := Vi (IntKind.i64.wrap (x13.1.1.1 + 1))) rfl rfl rfl rfl hr29 ?_
 refine inl1 ?_
 have hst := Stp.ev' (ls := [[b26], [b10], [b17], M]) he29 (mem_flat 0 rfl)
 replace hs_p1 := hs_p1.step hst
 replace hb10 := he29.box hb10 (hms.apart 1 0 rfl rfl rfl _ mem1)
 replace hf8_1 := hf8_1.step hst
 replace hb17 := he29.box hb17 (hms.apart 2 0 rfl rfl rfl _ mem1)
 replace hf14_1 := hf14_1.step hst
 replace hf14_2 := hf14_2.step hst
 replace hms := hms.ev he29
 replace hev := hev.then he29 (fun b hb => .inr (hfr.at 0 rfl b hb))
 replace hb26 := hb29
 refine x_ek ?_
 refine c_seq ?_
 refine c_sp ?_
 refine x_fieldAddr (xv := Vp b17 0) (Vp b17 2) rfl rfl rfl (reads_field tfld29_1 _ _) ?_
 refine x_load (xv := Vp b17 2) (.slice a2_14 (x13.1.2).length c2_14) rfl rfl rfl (reads_box tcell22 hb17 nn 2 _ rfl) ?_
 refine x_pure 1 [(50, .slice a_p1 (p1).length c_p1)] _ _ _ (by kernel_rfl) ?_
 refine x_buildSlice (vs := [(0, .slice a2_14 (x13.1.2).length c2_14), (1, .slice none 0 0), (2, .slice a_p1 (p1).length c_p1)]) #[.slice a2_14 (x13.1.2).length c2_14, .slice none 0 0, .slice a_p1 (p1).length c_p1] 22 rfl rfl rfl (by kernel_rfl) (fun b31 w31 hq31 hb31 he31 hz31 => ?_)
 refine inl1 ?_
 have hms0 := hms
 have hst := Stp.ext (ls := [[b26], [b10], [b17], M]) he31
 replace hs_p1 := hs_p1.step hst
 replace hb10 := he31.box hb10 nn
 replace hf8_1 := hf8_1.step hst
 replace hb17 := he31.box hb17 nn
 replace hf14_1 := hf14_1.step hst
 replace hf14_2 := hf14_2.step hst
 replace hb26 := he31.box hb26 nn
 replace hms := hms.ev he31
 replace hev := hev.ext he31
 have hs31 : SlR (eSl (eInt .i64)) w31 (fl [[b26], [b10], [b17], M]) (Ad b31 0) 3 ([x13.1.2, [], p1] : List (List Int)) := ro_of_box hms0 hq31 hb31 rfl rfl (cells_at (cs := [.slice a2_14 (x13.1.2).length c2_14, .slice none 0 0, .slice a_p1 (p1).length c_p1]) (CellsOf.cons (c := [.slice a2_14 (x13.1.2).length c2_14]) ⟨a2_14, c2_14, rfl, hf14_2⟩ (CellsOf.cons (c := [.slice none 0 0]) ⟨none, 0, rfl, SlR.empty _ _ _⟩ (CellsOf.cons (c := [.slice a_p1 (p1).length c_p1]) ⟨a_p1, c_p1, rfl, hs_p1⟩ CellsOf.nil))))
 clear hb31 hms0
 refine x_len (vs := [.slice (Ad b31 0) (([x13.1.2, [], p1] : List (List Int))).length 3]) (Vi ((([x13.1.2, [], p1] : List (List Int))).length : Int)) rfl rfl rfl (reads_len tsl42 _ _ _ _ _) ?_
 refine x_pure 1 [(53, Vi 0)] _ _ _ (by kernel_rfl) ?_
 refine x_ek ?_
 refine c_norm [(6, Vp b10 0), (7, Vp b17 0), (9, Vp b26 0), (51, .slice (Ad b31 0) (([x13.1.2, [], p1] : List (List Int))).length 3), (52, Vi ((([x13.1.2, [], p1] : List (List Int))).length : Int)), (53, Vi 0)] ⟨rfl, rfl, rfl, rfl, rfl, rfl, trivial⟩ (fun J => ?_)
 refine c_block ?_
 have hpk : MS w31 [[b10], [b17], [b26], M] := hms.pick [some 1, some 2, some 0, some 3] _ rfl
 have hsu : ∀ x ∈ fl [[b10], [b17], [b26], M], x ∈ fl [[b26], [b10], [b17], M] := pick_sub [some 1, some 2, some 0, some 3] _ rfl
 replace hf8_1 := hf8_1.sub hsu
 replace hf14_1 := hf14_1.sub hsu
 replace hf14_2 := hf14_2.sub hsu
 replace hs31 := hs31.sub hsu
 replace hms := hpk
 replace hfr : FR w.heap.size [[b10], [b17], [b26]] := hfr.pick [some 1, some 2, some 0] _ rfl
 clear hpk hsu
 obtain ⟨d33, hd33, h33⟩ := bind_some h
 obtain ⟨m33, hd33⟩ := loop_some hd33
 refine c_loop (loop_rule hmx (σ := Nat × (List Int) × Int × Option Addr × Nat) (fun s => match s with | (_, d34_l33, t53__s53_l33, a34_l33, c34_l33) => [(6, Vp b10 0), (7, Vp b17 0), (9, Vp b26 0), (51, .slice (Ad b31 0) (([x13.1.2, [], p1] : List (List Int))).length 3), (52, Vi ((([x13.1.2, [], p1] : List (List Int))).length : Int)), (53, Vi t53__s53_l33)]) (fun s w' => match s with | (m, d34_l33, t53__s53_l33, a34_l33, c34_l33) => loopN (law15_CertificateRefuses_L33 p1 x7 x13) m (d34_l33, t53__s53_l33) = some d33 ∧ Ev [] w w' ∧ MS w' [[b10], [b17], [b26], M] ∧ FR w.heap.size [[b10], [b17], [b26]] ∧ SlR (eIt4) w' (fl [[b10], [b17], [b26], M]) a0_8 c0_8 x7.1.1 ∧ w'.heap[b10]? = some (.cells #[.slice a0_8 (x7.1.1).length c0_8, Vi x7.1.2] 25 (0, 0)) ∧ SlR (eInt .i64) w' (fl [[b10], [b17], [b26], M]) a0_14 c0_14 x13.1.1.2 ∧ SlR (eInt .i64) w' (fl [[b10], [b17], [b26], M]) a2_14 c2_14 x13.1.2 ∧ w'.heap[b17]? = some (.cells #[Vi x13.1.1.1, .slice a0_14 (x13.1.1.2).length c0_14, .slice a2_14 (x13.1.2).length c2_14] 29 (0, 0)) ∧ SlR (eInt .i64) w' (fl [[b10], [b17], [b26], M]) a34_l33 c34_l33 d34_l33 ∧ w'.heap[b26]? = some (.cells #[Vi (IntKind.i64.wrap (x13.1.1.1 + 1)), .slice a0_14 (x13.1.1.2).length c0_14, .slice a34_l33 (d34_l33).length c34_l33] 29 (0, 0)) ∧ SlR (eSl (eInt .i64)) w' (fl [[b10], [b17], [b26], M]) (Ad b31 0) 3 ([x13.1.2, [], p1] : List (List Int))) (fun s => s.1) (m33, x13.1.2, 0, a2_14, c2_14) ⟨rfl, rfl, rfl, rfl, rfl, rfl, trivial⟩ ⟨hd33, hev, hms, hfr, hf8_1, hb10, hf14_1, hf14_2, hb17, hf14_2, hb26, hs31⟩ ?_)
 rintro ⟨m33, d34_l33, t53__s53_l33, a34_l33, c34_l33⟩ J wl33 ⟨hn33, hev, hms, hfr, hf8_1, hb10, hf14_1, hf14_2, hb17, hj34_l33, hb26, hs31⟩
 rcases m33 with _ | m33
 · exact (loopN_zero hn33).elim
 obtain ⟨t33, h, hn33⟩ := bind_some hn33
 refine c_sp ?_
 refine x_pure 1 [(54, .bool (decide (t53__s53_l33 < ((([x13.1.2, [], p1] : List (List Int))).length : Int))))] _ _ _ (by kernel_rfl) ?_
 refine x_ek ?_
 refine c_norm [(6, Vp b10 0), (7, Vp b17 0), (9, Vp b26 0), (51, .slice (Ad b31 0) (([x13.1.2, [], p1] : List (List Int))).length 3), (52, Vi ((([x13.1.2, [], p1] : List (List Int))).length : Int)), (53, Vi t53__s53_l33), (54, .bool (decide (t53__s53_l33 < ((([x13.1.2, [], p1] : List (List Int))).length : Int))))] ⟨rfl, rfl, rfl, rfl, rfl, rfl, rfl, trivial⟩ (fun J => ?_)
 refine c_seq ?_
 refine c_cond (decide (t53__s53_l33 < ((([x13.1.2, [], p1] : List (List Int))).length : Int))) rfl (fun hb => ?_) (fun hb => ?_)
 · replace h := ite_t hb h
   refine c_skip ?_
   refine k_then ?_
   refine c_seq ?_
   refine c_block ?_
   refine c_sp ?_
   obtain ⟨x36, hx36, h⟩ := bind_some h
   obtain ⟨ad36, cs36, hr36, hc36, hR⟩ := reads_index (Mo := []) tsl42 hs31 hx36
   obtain ⟨a37, c37, rfl, hs37⟩ := hR
   refine x_indexAddr (xv := .slice (Ad b31 0) (([x13.1.2, [], p1] : List (List Int))).length 3) (yv := Vi t53__s53_l33) (.pointer (some ad36)) rfl rfl rfl rfl hr36 ?_
   refine x_load (xv := .pointer (some ad36)) (.slice a37 (x36).length c37) rfl rfl rfl (reads_cell0 tcell22 hc36 (fun _ h => by cases h)) ?_
   refine x_pure 1 [(11, .slice a37 (x36).length c37)] _ _ _ (by kernel_rfl) ?_
   refine x_ek ?_
   refine c_sp ?_
   refine x_pure 1 [(57, .slice a37 (x36).length c37)] _ _ _ (by kernel_rfl) ?_
   refine x_fieldAddr (xv := Vp b26 0) (Vp b26 2) rfl rfl rfl (reads_field tfld29_1 _ _) ?_
   obtain ⟨w40, hr40, hb40, he40⟩ := store_box 2 (.slice a37 (x36).length c37) #[Vi (IntKind.i64.wrap (x13.1.1.1 + 1)), .slice a0_14 (x13.1.1.2).length c0_14, .slice a37 (x36).length c37] tcell22 hb26 rfl rfl rfl
   refine x_store w40 (xv := Vp b26 2) (yv := .slice a37 (x36).length c37) rfl rfl rfl rfl hr40 ?_
   refine inl1 ?_
   have hst := Stp.ev' (ls := [[b10], [b17], [b26], M]) he40 (mem_flat 2 rfl)
   replace hb10 := he40.box hb10 (hms.apart 0 2 rfl rfl rfl _ mem1)
   replace hf8_1 := hf8_1.step hst
   replace hb17 := he40.box hb17 (hms.apart 1 2 rfl rfl rfl _ mem1)
   replace hf14_1 := hf14_1.step hst
   replace hf14_2 := hf14_2.step hst
   replace hj34_l33 := hj34_l33.step hst
   replace hs31 := hs31.step hst
   replace hs37 := hs37.step hst
   replace hms := hms.ev he40
   replace hev := hev.then he40 (fun b hb => .inr (hfr.at 2 rfl b hb))
   replace hb26 := hb40
   refine x_ek ?_
   refine c_sp ?_
   refine x_load (xv := Vp b10 0) (.agg #[.slice a0_8 (x7.1.1).length c0_8, Vi x7.1.2]) rfl rfl rfl (reads_boxagg 0 [.slice a0_8 (x7.1.1).length c0_8, Vi x7.1.2] tagg25 hb10 nn rfl) ?_
   refine x_load (xv := Vp b26 0) (.agg #[Vi (IntKind.i64.wrap (x13.1.1.1 + 1)), .slice a0_14 (x13.1.1.2).length c0_14, .slice a37 (x36).length c37]) rfl rfl rfl (reads_boxagg 0 [Vi (IntKind.i64.wrap (x13.1.1.1 + 1)), .slice a0_14 (x13.1.1.2).length c0_14, .slice a37 (x36).length c37] tagg29 hb26 nn rfl) ?_
   obtain ⟨x41, hx, h⟩ := bind_some h
   have hpk : MS w40 ([] ++ [[b10], [b17], [b26], M]) := hms.pick [some 0, some 1, some 2, some 3] _ rfl
   have hsb0 : ∀ x ∈ fl ([] ++ [[b10], [b17], [b26], M]), x ∈ fl [[b10], [b17], [b26], M] := pick_sub [some 0, some 1, some 2, some 3] _ rfl
   have hsb : ∀ x ∈ fl ([] ++ [(fl [[b10], [b17], [b26], M])]), x ∈ fl [[b10], [b17], [b26], M] := fun x hx => hsb0 x (fl_unfold x hx)
   have hcall := certificate_Check_w a0_8 c0_8 x7.1.1 x7.1.2 (IntKind.i64.wrap (x13.1.1.1 + 1)) a0_14 c0_14 x13.1.1.2 a37 c37 x36 _ w40 (fl [[b10], [b17], [b26], M]) (MS.fold (P := []) hpk) (hf8_1.sub hsb) (hf14_1.sub hsb) (hs37.sub hsb) hx
   refine x_call 14 #[] #[] [.agg #[.slice a0_8 (x7.1.1).length c0_8, Vi x7.1.2], .agg #[Vi (IntKind.i64.wrap (x13.1.1.1 + 1)), .slice a0_14 (x13.1.1.2).length c0_14, .slice a37 (x36).length c37]] _ rfl rfl rfl rfl hcall ?_
   rintro v w42 ⟨rfl, he42⟩
   clear hcall hx
   refine inl1 ?_
   have hst := Stp.ext (ls := [[b10], [b17], [b26], M]) he42
   replace hb10 := he42.box hb10 nn
   replace hf8_1 := hf8_1.step hst
   replace hb17 := he42.box hb17 nn
   replace hf14_1 := hf14_1.step hst
   replace hf14_2 := hf14_2.step hst
   replace hb26 := he42.box hb26 nn
   replace hs31 := hs31.step hst
   replace hs37 := hs37.step hst
   replace hms := hms.ev he42
   replace hev := hev.ext he42
   clear hpk hsb hsb0
   refine x_pure 1 [(62, .bool (x41 == 0))] _ _ _ (by kernel_rfl) ?_
   refine x_ek ?_
   refine c_cond (x41 == 0) rfl (fun hb => ?_) (fun hb => ?_)
   · replace h := ite_t hb h
     refine c_sp ?_
     refine x_pure 1 [(4, .bool false)] _ _ _ (by kernel_rfl) ?_
     refine x_ek ?_
     refine c_ret ?_
     refine k_block_ret ?_
     refine k_then_ret ?_
     have hx := some_inj h
     subst hx
     have hy := some_inj hn33
     subst hy
     replace h := h33
     refine k_then_ret ?_
     refine k_block_ret ?_
     refine k_then_ret ?_
     refine r_ret (r_vals [.bool false] ⟨rfl, trivial⟩ ?_)
     have hx := some_inj h
     subst hx
     have hmr : MS w42 [M] := hms.pick [some 3] _ rfl
     have hsu : ∀ x ∈ fl [M], x ∈ fl [[b10], [b17], [b26], M] := pick_sub [some 3] _ rfl
     exact ⟨rfl, hev⟩
   replace h := ite_f hb h
   refine c_skip ?_
   refine k_block ?_
   refine k_then ?_
   refine c_plain ?_
   refine x_pure 2 [(63, Vi (IntKind.i64.wrap (t53__s53_l33 + 1))), (53, Vi (IntKind.i64.wrap (t53__s53_l33 + 1)))] _ _ _ (by kernel_rfl) ?_
   refine x_end rfl ?_
   have hx := some_inj h
   subst hx
   exact k_then ⟨(m33, x36, IntKind.i64.wrap (t53__s53_l33 + 1), a37, c37), ⟨rfl, rfl, rfl, rfl, rfl, rfl, trivial⟩, ⟨hn33, hev, hms, hfr, hf8_1, hb10, hf14_1, hf14_2, hb17, hs37, hb26, hs31⟩, Nat.lt_succ_self _⟩
 replace h := ite_f hb h
 refine c_exit ?_
 refine k_then_exit ?_
 have hx := some_inj h
 subst hx
 have hy := some_inj hn33
 subst hy
 replace h := h33
 refine k_then_exit ?_
 refine k_block_in ?_
 refine k_then ?_
 refine c_norm [(6, Vp b10 0), (7, Vp b17 0)] ⟨rfl, rfl, trivial⟩ (fun J => ?_)
 refine c_seq ?_
 refine c_sp ?_
 refine x_fieldAddr (xv := Vp b17 0) (Vp b17 0) rfl rfl rfl (reads_field tfld29_0 _ _) ?_
 refine x_fieldAddr (xv := Vp b17 0) (Vp b17 1) rfl rfl rfl (reads_field tfld27_1 _ _) ?_
 refine x_load (xv := Vp b17 1) (.slice a0_14 (x13.1.1.2).length c0_14) rfl rfl rfl (reads_box tcell22 hb17 nn 1 _ rfl) ?_
 refine x_len (vs := [.slice a0_14 (x13.1.1.2).length c0_14]) (Vi ((x13.1.1.2).length : Int)) rfl rfl rfl (reads_len tsl22 _ _ _ _ _) ?_
 refine x_pure 1 [(68, Vi 0)] _ _ _ (by kernel_rfl) ?_
 refine x_ek ?_
 refine c_block ?_
 have hpk : MS wl33 [[b10], [b17], M] := hms.pick [some 0, some 1, some 3] _ rfl
 have hsu : ∀ x ∈ fl [[b10], [b17], M], x ∈ fl [[b10], [b17], [b26], M] := pick_sub [some 0, some 1, some 3] _ rfl
 replace hf8_1 := hf8_1.sub hsu
 replace hf14_1 := hf14_1.sub hsu
 replace hf14_2 := hf14_2.sub hsu
 replace hms := hpk
 replace hfr : FR w.heap.size [[b10], [b17]] := hfr.pick [some 0, some 1] _ rfl
 clear hpk hsu
 obtain ⟨d43, hd43, h43⟩ := bind_some h
 obtain ⟨m43, hd43⟩ := loop_some hd43
 refine c_loop (loop_rule hmx (σ := Nat × Int) (fun s => match s with | (_, t68__s68_l43) => [(6, Vp b10 0), (7, Vp b17 0), (67, Vi ((x13.1.1.2).length : Int)), (68, Vi t68__s68_l43)]) (fun s w' => match s with | (m, t68__s68_l43) => loopN (law15_CertificateRefuses_L43 x7 x13) m t68__s68_l43 = some d43 ∧ Ev [] w w' ∧ MS w' [[b10], [b17], M] ∧ FR w.heap.size [[b10], [b17]] ∧ SlR (eIt4) w' (fl [[b10], [b17], M]) a0_8 c0_8 x7.1.1 ∧ w'.heap[b10]? = some (.cells #[.slice a0_8 (x7.1.1).length c0_8, Vi x7.1.2] 25 (0, 0)) ∧ SlR (eInt .i64) w' (fl [[b10], [b17], M]) a0_14 c0_14 x13.1.1.2 ∧ SlR (eInt .i64) w' (fl [[b10], [b17], M]) a2_14 c2_14 x13.1.2 ∧ w'.heap[b17]? = some (.cells #[Vi x13.1.1.1, .slice a0_14 (x13.1.1.2).length c0_14, .slice a2_14 (x13.1.2).length c2_14] 29 (0, 0))) (fun s => s.1) (m43, 0) ⟨rfl, rfl, rfl, rfl, trivial⟩ ⟨hd43, hev, hms, hfr, hf8_1, hb10, hf14_1, hf14_2, hb17⟩ ?_)
 rintro ⟨m43, t68__s68_l43⟩ J wl43 ⟨hn43, hev, hms, hfr, hf8_1, hb10, hf14_1, hf14_2, hb17⟩
 rcases m43 with _ | m43
 · exact (loopN_zero hn43).elim
 obtain ⟨t43, h, hn43⟩ := bind_some hn43
 refine c_sp ?_
 refine x_pure 1 [(69, .bool (decide (t68__s68_l43 < ((x13.1.1.2).length : Int))))] _ _ _ (by kernel_rfl) ?_
 refine x_ek ?_
 refine c_norm [(6, Vp b10 0), (7, Vp b17 0), (67, Vi ((x13.1.1.2).length : Int)), (68, Vi t68__s68_l43), (69, .bool (decide (t68__s68_l43 < ((x13.1.1.2).length : Int))))] ⟨rfl, rfl, rfl, rfl, rfl, trivial⟩ (fun J => ?_)
 refine c_seq ?_
 refine c_cond (decide (t68__s68_l43 < ((x13.1.1.2).length : Int))) rfl (fun hb => ?_) (fun hb => ?_)
 · replace h := ite_t hb h
   refine c_skip ?_
   refine k_then ?_
   refine c_seq ?_
   refine c_block ?_
   refine c_sp ?_
   refine x_pure 2 [(70, Vi t68__s68_l43), (12, Vi t68__s68_l43)] _ _ _ (by kernel_rfl) ?_
   refine x_ek ?_
   refine c_sp ?_
   refine x_fieldAddr (xv := Vp b17 0) (Vp b17 0) rfl rfl rfl (reads_field tfld29_0 _ _) ?_
   refine x_fieldAddr (xv := Vp b17 0) (Vp b17 1) rfl rfl rfl (reads_field tfld27_1 _ _) ?_
   refine x_load (xv := Vp b17 1) (.slice a0_14 (x13.1.1.2).length c0_14) rfl rfl rfl (reads_box tcell22 hb17 nn 1 _ rfl) ?_
   refine x_len (vs := [.slice a0_14 (x13.1.1.2).length c0_14]) (Vi ((x13.1.1.2).length : Int)) rfl rfl rfl (reads_len tsl22 _ _ _ _ _) ?_
   refine x_pure 1 [(75, Vi 0)] _ _ _ (by kernel_rfl) ?_
   refine x_ek ?_
   refine c_block ?_
   obtain ⟨d45, hd45, h45⟩ := bind_some h
   obtain ⟨m45, hd45⟩ := loop_some hd45
   refine c_loop (loop_rule hmx (σ := Nat × Int) (fun s => match s with | (_, t75__s75_l45) => [(6, Vp b10 0), (7, Vp b17 0), (12, Vi t68__s68_l43), (67, Vi ((x13.1.1.2).length : Int)), (68, Vi t68__s68_l43), (74, Vi ((x13.1.1.2).length : Int)), (75, Vi t75__s75_l45)]) (fun s w' => match s with | (m, t75__s75_l45) => loopN (law15_CertificateRefuses_L45 x7 x13 t68__s68_l43) m t75__s75_l45 = some d45 ∧ Ev [] w w' ∧ MS w' [[b10], [b17], M] ∧ FR w.heap.size [[b10], [b17]] ∧ SlR (eIt4) w' (fl [[b10], [b17], M]) a0_8 c0_8 x7.1.1 ∧ w'.heap[b10]? = some (.cells #[.slice a0_8 (x7.1.1).length c0_8, Vi x7.1.2] 25 (0, 0)) ∧ SlR (eInt .i64) w' (fl [[b10], [b17], M]) a0_14 c0_14 x13.1.1.2 ∧ SlR (eInt .i64) w' (fl [[b10], [b17], M]) a2_14 c2_14 x13.1.2 ∧ w'.heap[b17]? = some (.cells #[Vi x13.1.1.1, .slice a0_14 (x13.1.1.2).length c0_14, .slice a2_14 (x13.1.2).length c2_14] 29 (0, 0))) (fun s => s.1) (m45, 0) ⟨rfl, rfl, rfl, rfl, rfl, rfl, rfl, trivial⟩ ⟨hd45, hev, hms, hfr, hf8_1, hb10, hf14_1, hf14_2, hb17⟩ ?_)
   rintro ⟨m45, t75__s75_l45⟩ J wl45 ⟨hn45, hev, hms, hfr, hf8_1, hb10, hf14_1, hf14_2, hb17⟩
   rcases m45 with _ | m45
   · exact (loopN_zero hn45).elim
   obtain ⟨t45, h, hn45⟩ := bind_some hn45
   refine c_sp ?_
   refine x_pure 1 [(76, .bool (decide (t75__s75_l45 < ((x13.1.1.2).length : Int))))] _ _ _ (by kernel_rfl) ?_
   refine x_ek ?_
   refine c_norm [(6, Vp b10 0), (7, Vp b17 0), (12, Vi t68__s68_l43), (67, Vi ((x13.1.1.2).length : Int)), (68, Vi t68__s68_l43), (74, Vi ((x13.1.1.2).length : Int)), (75, Vi t75__s75_l45), (76, .bool (decide (t75__s75_l45 < ((x13.1.1.2).length : Int))))] ⟨rfl, rfl, rfl, rfl, rfl, rfl, rfl, rfl, trivial⟩ (fun J => ?_)
   refine c_seq ?_
   refine c_cond (decide (t75__s75_l45 < ((x13.1.1.2).length : Int))) rfl (fun hb => ?_) (fun hb => ?_)
   · replace h := ite_t hb h
     refine c_skip ?_
     refine k_then ?_
     refine c_seq ?_
     refine c_block ?_
     refine c_sp ?_
     refine x_pure 2 [(77, Vi t75__s75_l45), (13, Vi t75__s75_l45)] _ _ _ (by kernel_rfl) ?_
     refine x_ek ?_
     refine c_seq ?_
     refine c_seq ?_
     refine c_drawn [] [(0, false), (1, false), (2, false), (3, true), (4, false), (5, false), (6, false), (7, false), (8, false), (9, false), (10, false), (11, false), (12, false), (13, false), (14, false), (17, false), (18, false), (19, false), (20, false), (21, false), (22, false), (15, false), (16, false), (23, false), (24, false), (25, false), (26, false), (27, false), (28, false), (29, false), (30, false), (31, false), (32, false), (33, false)] _ (by kernel_rfl) rfl ?_
     have hst := Stp.ext (ls := [[b10], [b17], M]) (Ev.drew wl45)
     replace hb10 := (Ev.drew wl45).box hb10 nn
     replace hf8_1 := hf8_1.step hst
     replace hb17 := (Ev.drew wl45).box hb17 nn
     replace hf14_1 := hf14_1.step hst
     replace hf14_2 := hf14_2.step hst
     replace hms := hms.ev (Ev.drew wl45)
     replace hev := hev.ext (Ev.drew wl45)
     refine x_load (xv := Vp b10 0) (.agg #[.slice a0_8 (x7.1.1).length c0_8, Vi x7.1.2]) rfl rfl rfl (reads_boxagg 0 [.slice a0_8 (x7.1.1).length c0_8, Vi x7.1.2] tagg25 hb10 nn rfl) ?_
     refine x_pure 2 [(79, Vi t75__s75_l45), (80, Vi t68__s68_l43)] _ _ _ (by kernel_rfl) ?_
     obtain ⟨x48, hx, h⟩ := bind_some h
     have hpk : MS (wl45).drew ([] ++ [[b10], [b17], M]) := hms.pick [some 0, some 1, some 2] _ rfl
     have hsb0 : ∀ x ∈ fl ([] ++ [[b10], [b17], M]), x ∈ fl [[b10], [b17], M] := pick_sub [some 0, some 1, some 2] _ rfl
     have hsb : ∀ x ∈ fl ([] ++ [(fl [[b10], [b17], M])]), x ∈ fl [[b10], [b17], M] := fun x hx => hsb0 x (fl_unfold x hx)
     have hcall := r11_Kind_w a0_8 c0_8 x7.1.1 x7.1.2 t75__s75_l45 t68__s68_l43 _ (wl45).drew (fl [[b10], [b17], M]) (MS.fold (P := []) hpk) (hf8_1.sub hsb) hx
     refine x_call 18 #[] #[] [.agg #[.slice a0_8 (x7.1.1).length c0_8, Vi x7.1.2], Vi t75__s75_l45, Vi t68__s68_l43] _ rfl rfl rfl rfl hcall ?_
     rintro v w49 ⟨rfl, he49⟩
     clear hcall hx
     refine inl1 ?_
     have hst := Stp.ext (ls := [[b10], [b17], M]) he49
     replace hb10 := he49.box hb10 nn
     replace hf8_1 := hf8_1.step hst
     replace hb17 := he49.box hb17 nn
     replace hf14_1 := hf14_1.step hst
     replace hf14_2 := hf14_2.step hst
     replace hms := hms.ev he49
     replace hev := hev.ext he49
     clear hpk hsb hsb0
     refine x_pure 2 [(82, .bool (x48 == 0)), (83, .bool (x48 == 0))] _ _ _ (by kernel_rfl) ?_
     refine x_split 83 (x48 == 0) rfl (fun hb => ?_) (fun hb => ?_)
     · replace h := ite_t hb h
       refine x_pure 28 [(84, undef), (85, undef), (86, undef), (87, undef), (88, undef), (89, undef), (90, undef), (91, undef), (92, undef), (95, undef), (96, undef), (97, undef), (98, undef), (99, undef), (100, undef), (93, undef), (94, undef), (101, undef), (102, .bool true), (103, .bool true), (104, undef), (105, undef), (106, undef), (107, undef), (108, undef), (109, undef), (110, undef), (111, .bool true)] _ _ _ (by kernel_rfl) ?_
       refine x_ek ?_
       refine c_norm [(6, Vp b10 0), (7, Vp b17 0), (12, Vi t68__s68_l43), (67, Vi ((x13.1.1.2).length : Int)), (68, Vi t68__s68_l43), (74, Vi ((x13.1.1.2).length : Int)), (75, Vi t75__s75_l45), (111, .bool true)] ⟨rfl, rfl, rfl, rfl, rfl, rfl, rfl, rfl, trivial⟩ (fun J => ?_)
       refine c_true rfl ?_
       refine c_exit ?_
       refine k_then_exit ?_
       refine k_block_in ?_
       refine k_then ?_
       refine c_plain ?_
       refine x_pure 2 [(141, Vi (IntKind.i64.wrap (t75__s75_l45 + 1))), (75, Vi (IntKind.i64.wrap (t75__s75_l45 + 1)))] _ _ _ (by kernel_rfl) ?_
       refine x_end rfl ?_
       have hx := some_inj h
       subst hx
       exact k_then ⟨(m45, IntKind.i64.wrap (t75__s75_l45 + 1)), ⟨rfl, rfl, rfl, rfl, rfl, rfl, rfl, trivial⟩, ⟨hn45, hev, hms, hfr, hf8_1, hb10, hf14_1, hf14_2, hb17⟩, Nat.lt_succ_self _⟩
     replace h := ite_f hb h
     refine x_fieldAddr (xv := Vp b17 0) (Vp b17 0) rfl rfl rfl (reads_field tfld29_0 _ _) ?_
     refine x_fieldAddr (xv := Vp b17 0) (Vp b17 1) rfl rfl rfl (reads_field tfld27_1 _ _) ?_
     refine x_load (xv := Vp b17 1) (.slice a0_14 (x13.1.1.2).length c0_14) rfl rfl rfl (reads_box tcell22 hb17 nn 1 _ rfl) ?_
     refine x_pure 1 [(87, Vi t75__s75_l45)] _ _ _ (by kernel_rfl) ?_
     obtain ⟨x50, hx50, h⟩ := bind_some h
     obtain ⟨ad50, cs50, hr50, hc50, hR⟩ := reads_index (Mo := []) tsl22 hf14_1 hx50
     obtain rfl := hR
     refine x_indexAddr (xv := .slice a0_14 (x13.1.1.2).length c0_14) (yv := Vi t75__s75_l45) (.pointer (some ad50)) rfl rfl rfl rfl hr50 ?_
     refine x_load (xv := .pointer (some ad50)) (Vi x50) rfl rfl rfl (reads_cell0 tcell3 hc50 (fun _ h => by cases h)) ?_
     refine x_load (xv := Vp b10 0) (.agg #[.slice a0_8 (x7.1.1).length c0_8, Vi x7.1.2]) rfl rfl rfl (reads_boxagg 0 [.slice a0_8 (x7.1.1).length c0_8, Vi x7.1.2] tagg25 hb10 nn rfl) ?_
     refine x_pure 2 [(91, Vi t75__s75_l45), (92, Vi t68__s68_l43)] _ _ _ (by kernel_rfl) ?_
     refine x_fieldAddr (xv := Vp b17 0) (Vp b17 0) rfl rfl rfl (reads_field tfld29_0 _ _) ?_
     refine x_fieldAddr (xv := Vp b17 0) (Vp b17 1) rfl rfl rfl (reads_field tfld27_1 _ _) ?_
     refine x_load (xv := Vp b17 1) (.slice a0_14 (x13.1.1.2).length c0_14) rfl rfl rfl (reads_box tcell22 hb17 nn 1 _ rfl) ?_
     refine x_pure 1 [(98, Vi t68__s68_l43)] _ _ _ (by kernel_rfl) ?_
     obtain ⟨x52, hx52, h⟩ := bind_some h
     obtain ⟨ad52, cs52, hr52, hc52, hR⟩ := reads_index (Mo := []) tsl22 hf14_1 hx52
     obtain rfl := hR
     refine x_indexAddr (xv := .slice a0_14 (x13.1.1.2).length c0_14) (yv := Vi t68__s68_l43) (.pointer (some ad52)) rfl rfl rfl rfl hr52 ?_
     refine x_load (xv := .pointer (some ad52)) (Vi x52) rfl rfl rfl (reads_cell0 tcell3 hc52 (fun _ h => by cases h)) ?_
     obtain ⟨x54, hx, h⟩ := bind_some h
     have hpk : MS w49 ([] ++ [[b10], [b17], M]) := hms.pick [some 0, some 1, some 2] _ rfl
     have hsb0 : ∀ x ∈ fl ([] ++ [[b10], [b17], M]), x ∈ fl [[b10], [b17], M] := pick_sub [some 0, some 1, some 2] _ rfl
     have hsb : ∀ x ∈ fl ([] ++ [(fl [[b10], [b17], M])]), x ∈ fl [[b10], [b17], M] := fun x hx => hsb0 x (fl_unfold x hx)
     have hcall := r11_Strict_w a0_8 c0_8 x7.1.1 x7.1.2 t75__s75_l45 t68__s68_l43 _ w49 (fl [[b10], [b17], M]) (MS.fold (P := []) hpk) (hf8_1.sub hsb) hx
     refine x_call 19 #[] #[] [.agg #[.slice a0_8 (x7.1.1).length c0_8, Vi x7.1.2], Vi t75__s75_l45, Vi t68__s68_l43] _ rfl rfl rfl rfl hcall ?_
     rintro v w55 ⟨rfl, he55⟩
     clear hcall hx
     refine ⟨.inr he55, ?_⟩
     have hst := Stp.ext (ls := [[b10], [b17], M]) he55
     replace hb10 := he55.box hb10 nn
     replace hf8_1 := hf8_1.step hst
     replace hb17 := he55.box hb17 nn
     replace hf14_1 := hf14_1.step hst
     replace hf14_2 := hf14_2.step hst
     replace hc50 := hc50.step hst
     replace hc52 := hc52.step hst
     replace hms := hms.ev he55
     replace hev := hev.ext he55
     clear hpk hsb hsb0
     refine x_pure 4 [(94, Vi (IntKind.i64.wrap (x50 + x54))), (101, .bool ((IntKind.i64.wrap (x50 + x54)) != x52)), (102, .bool ((IntKind.i64.wrap (x50 + x54)) != x52)), (103, .bool ((IntKind.i64.wrap (x50 + x54)) != x52))] _ _ _ (by kernel_rfl) ?_
     refine x_split 103 ((IntKind.i64.wrap (x50 + x54)) != x52) rfl (fun hb => ?_) (fun hb => ?_)
     · replace h := ite_t hb h
       refine x_pure 8 [(104, undef), (105, undef), (106, undef), (107, undef), (108, undef), (109, undef), (110, undef), (111, .bool true)] _ _ _ (by kernel_rfl) ?_
       refine x_ek ?_
       refine c_norm [(6, Vp b10 0), (7, Vp b17 0), (12, Vi t68__s68_l43), (67, Vi ((x13.1.1.2).length : Int)), (68, Vi t68__s68_l43), (74, Vi ((x13.1.1.2).length : Int)), (75, Vi t75__s75_l45), (111, .bool true)] ⟨rfl, rfl, rfl, rfl, rfl, rfl, rfl, rfl, trivial⟩ (fun J => ?_)
       refine c_true rfl ?_
       refine c_exit ?_
       refine k_then_exit ?_
       refine k_block_in ?_
       refine k_then ?_
       refine c_plain ?_
       refine x_pure 2 [(141, Vi (IntKind.i64.wrap (t75__s75_l45 + 1))), (75, Vi (IntKind.i64.wrap (t75__s75_l45 + 1)))] _ _ _ (by kernel_rfl) ?_
       refine x_end rfl ?_
       have hx := some_inj h
       subst hx
       exact k_then ⟨(m45, IntKind.i64.wrap (t75__s75_l45 + 1)), ⟨rfl, rfl, rfl, rfl, rfl, rfl, rfl, trivial⟩, ⟨hn45, hev, hms, hfr, hf8_1, hb10, hf14_1, hf14_2, hb17⟩, Nat.lt_succ_self _⟩
     replace h := ite_f hb h
     refine x_fieldAddr (xv := Vp b17 0) (Vp b17 0) rfl rfl rfl (reads_field tfld29_0 _ _) ?_
     refine x_fieldAddr (xv := Vp b17 0) (Vp b17 1) rfl rfl rfl (reads_field tfld27_1 _ _) ?_
     refine x_load (xv := Vp b17 1) (.slice a0_14 (x13.1.1.2).length c0_14) rfl rfl rfl (reads_box tcell22 hb17 nn 1 _ rfl) ?_
     refine x_pure 1 [(107, Vi t68__s68_l43)] _ _ _ (by kernel_rfl) ?_
     obtain ⟨x56, hx56, h⟩ := bind_some h
     obtain ⟨ad56, cs56, hr56, hc56, hR⟩ := reads_index (Mo := []) tsl22 hf14_1 hx56
     obtain rfl := hR
     refine x_indexAddr (xv := .slice a0_14 (x13.1.1.2).length c0_14) (yv := Vi t68__s68_l43) (.pointer (some ad56)) rfl rfl rfl rfl hr56 ?_
     refine x_load (xv := .pointer (some ad56)) (Vi x56) rfl rfl rfl (reads_cell0 tcell3 hc56 (fun _ h => by cases h)) ?_
     refine x_pure 2 [(110, .bool (x56 == 0)), (111, .bool (x56 == 0))] _ _ _ (by kernel_rfl) ?_
     refine x_ek ?_
     refine c_norm [(6, Vp b10 0), (7, Vp b17 0), (12, Vi t68__s68_l43), (67, Vi ((x13.1.1.2).length : Int)), (68, Vi t68__s68_l43), (74, Vi ((x13.1.1.2).length : Int)), (75, Vi t75__s75_l45), (111, .bool (x56 == 0))] ⟨rfl, rfl, rfl, rfl, rfl, rfl, rfl, rfl, trivial⟩ (fun J => ?_)
     refine c_cond (x56 == 0) rfl (fun hb => ?_) (fun hb => ?_)
     · replace h := ite_t hb h
       refine c_exit ?_
       refine k_then_exit ?_
       refine k_block_in ?_
       refine k_then ?_
       refine c_plain ?_
       refine x_pure 2 [(141, Vi (IntKind.i64.wrap (t75__s75_l45 + 1))), (75, Vi (IntKind.i64.wrap (t75__s75_l45 + 1)))] _ _ _ (by kernel_rfl) ?_
       refine x_end rfl ?_
       have hx := some_inj h
       subst hx
       exact k_then ⟨(m45, IntKind.i64.wrap (t75__s75_l45 + 1)), ⟨rfl, rfl, rfl, rfl, rfl, rfl, rfl, trivial⟩, ⟨hn45, hev, hms, hfr, hf8_1, hb10, hf14_1, hf14_2, hb17⟩, Nat.lt_succ_self _⟩
     replace h := ite_f hb h
     refine c_skip ?_
     refine k_then ?_
     refine c_sp ?_
     refine x_load (xv := Vp b17 0) (.agg #[Vi x13.1.1.1, .slice a0_14 (x13.1.1.2).length c0_14, .slice a2_14 (x13.1.2).length c2_14]) rfl rfl rfl (reads_boxagg 0 [Vi x13.1.1.1, .slice a0_14 (x13.1.1.2).length c0_14, .slice a2_14 (x13.1.2).length c2_14] tagg29 hb17 nn rfl) ?_
     refine x_alloc (z := .agg #[Vi 0, .slice none 0 0, .slice none 0 0]) rfl rfl (by kernel_rfl) (fun b58 w58 hq58 hb58 he58 hz58 => ?_)
     replace hb58 : w58.heap[b58]? = some (.cells #[Vi 0, .slice none 0 0, .slice none 0 0] 29 (0, 0)) := hb58
     refine inl1 ?_
     have hst := Stp.box (ls := [[b10], [b17], M]) he58 hq58
     replace hb10 := he58.box hb10 nn
     replace hf8_1 := hf8_1.step hst
     replace hb17 := he58.box hb17 nn
     replace hf14_1 := hf14_1.step hst
     replace hf14_2 := hf14_2.step hst
     replace hms := hms.box he58 hq58 hb58
     replace hfr := hfr.box hev.size hq58
     replace hev := hev.ext he58
     obtain ⟨w60, hr60, hb60, he60⟩ := store_boxagg 0 [Vi x13.1.1.1, .slice a0_14 (x13.1.1.2).length c0_14, .slice a2_14 (x13.1.2).length c2_14] #[Vi x13.1.1.1, .slice a0_14 (x13.1.1.2).length c0_14, .slice a2_14 (x13.1.2).length c2_14] tagg29 hb58 rfl rfl rfl
     refine x_store w60 (xv := Vp b58 0) (yv := .agg #[Vi x13.1.1.1, .slice a0_14 (x13.1.1.2).length c0_14, .slice a2_14 (x13.1.2).length c2_14]) rfl rfl rfl rfl hr60 ?_
     refine inl1 ?_
     have hst := Stp.ev' (ls := [[b58], [b10], [b17], M]) he60 (mem_flat 0 rfl)
     replace hb10 := he60.box hb10 (hms.apart 1 0 rfl rfl rfl _ mem1)
     replace hf8_1 := hf8_1.step hst
     replace hb17 := he60.box hb17 (hms.apart 2 0 rfl rfl rfl _ mem1)
     replace hf14_1 := hf14_1.step hst
     replace hf14_2 := hf14_2.step hst
     replace hms := hms.ev he60
     replace hev := hev.then he60 (fun b hb => .inr (hfr.at 0 rfl b hb))
     replace hb58 := hb60
     refine x_ek ?_
     refine c_sp ?_
     refine x_buildSlice (vs := []) #[] 3 rfl rfl rfl (by kernel_rfl) (fun b61 w61 hq61 hb61 he61 hz61 => ?_)
     refine inl1 ?_
     obtain ⟨a61, ea61⟩ : ∃ a, a = some (⟨b61, 0, none⟩ : Addr) := ⟨_, rfl⟩
     have hw61 : ∀ M, OwnS (eInt .i64) 3 w61 M a61 0 ([] : List Int) := fun M => ea61 ▸ own_of_box hb61 (by decide) rfl rfl (cells_at (cs := []) CellsOf.nil)
     have hn61 : ∀ b ∈ blk a61, w60.heap.size ≤ b ∧ b < w61.heap.size := by subst ea61; intro b hb; simp only [blk, List.mem_singleton] at hb; subst hb; exact ⟨Nat.le_of_eq hq61.symm, lt_of_heap hb61⟩
     clear hb61
     have hst := Stp.push (ls := [[b58], [b10], [b17], M]) (l := blk a61) he61 (fun _ h => by cases h) (fun b hb => (hn61 b hb).1)
     replace hb10 := he61.box hb10 nn
     replace hf8_1 := hf8_1.step hst
     replace hb17 := he61.box hb17 nn
     replace hf14_1 := hf14_1.step hst
     replace hf14_2 := hf14_2.step hst
     replace hb58 := he61.box hb58 nn
     replace hms := hms.push he61 hn61
     replace hfr := hfr.push (fun b hb => Nat.le_trans hev.size (hn61 b hb).1)
     replace hev := hev.ext he61
     have ho61 := hw61 (fl [blk a61, [b58], [b10], [b17], M])
     clear hw61
     rw [← ea61]
     refine x_fieldAddr (xv := Vp b17 0) (Vp b17 0) rfl rfl rfl (reads_field tfld29_0 _ _) ?_
     refine x_fieldAddr (xv := Vp b17 0) (Vp b17 1) rfl rfl rfl (reads_field tfld27_1 _ _) ?_
     refine x_load (xv := Vp b17 1) (.slice a0_14 (x13.1.1.2).length c0_14) rfl rfl rfl (reads_box tcell22 hb17 nn 1 _ rfl) ?_
     have hg := guard_l h
     replace h := guard_r h
     obtain ⟨a63, c63, w63, hr63, he63, hn63, hm63, hw63⟩ := own_appendN tel22 22 ho61 (mem_flat 0 rfl) hf14_1 hg
     refine x_builtin (vs := [.slice a61 (([] : List Int)).length 0, .slice a0_14 (x13.1.1.2).length c0_14]) _ w63 rfl rfl rfl rfl (run_value _ _ _ _ hr63) ?_
     refine inl1 ?_
     have hst : Stp (fl [blk a61, [b58], [b10], [b17], M]) w61 (fl [blk a63, [b58], [b10], [b17], M]) w63 := Stp.upd 0 he63 rfl (fun b hb => (hn63 b hb).1)
     replace hb10 := he63.box hb10 (hms.apart 2 0 rfl rfl rfl _ mem1)
     replace hf8_1 := hf8_1.step hst
     replace hb17 := he63.box hb17 (hms.apart 3 0 rfl rfl rfl _ mem1)
     replace hf14_1 := hf14_1.step hst
     replace hf14_2 := hf14_2.step hst
     replace hb58 := he63.box hb58 (hms.apart 1 0 rfl rfl rfl _ mem1)
     replace hms : MS w63 [blk a63, [b58], [b10], [b17], M] := hms.upd 0 he63 rfl hn63
     have hfr2 : FR w.heap.size [blk a63, [b58], [b10], [b17]] := hfr.upd 0 rfl hev.size (fun b hb => (hn63 b hb).1)
     replace hev := hev.then he63 (fun b hb => .inr (hfr.at 0 rfl b hb))
     replace hfr := hfr2
     clear hfr2
     replace ho61 := hw63 (fl [blk a63, [b58], [b10], [b17], M]) hst.new
     clear hw63
     refine x_fieldAddr (xv := Vp b58 0) (Vp b58 0) rfl rfl rfl (reads_field tfld29_0 _ _) ?_
     refine x_fieldAddr (xv := Vp b58 0) (Vp b58 1) rfl rfl rfl (reads_field tfld27_1 _ _) ?_
     obtain ⟨w64, hr64, hb64, he64⟩ := store_box 1 (.slice a63 ((([] : List Int) ++ x13.1.1.2)).length c63) #[Vi x13.1.1.1, .slice a63 ((([] : List Int) ++ x13.1.1.2)).length c63, .slice a2_14 (x13.1.2).length c2_14] tcell22 hb58 rfl rfl rfl
     refine x_store w64 (xv := Vp b58 1) (yv := .slice a63 ((([] : List Int) ++ x13.1.1.2)).length c63) rfl rfl rfl rfl hr64 ?_
     refine inl1 ?_
     have hst := Stp.ev' (ls := [blk a63, [b58], [b10], [b17], M]) he64 (mem_flat 1 rfl)
     replace hb10 := he64.box hb10 (hms.apart 2 1 rfl rfl rfl _ mem1)
     replace hf8_1 := hf8_1.step hst
     replace hb17 := he64.box hb17 (hms.apart 3 1 rfl rfl rfl _ mem1)
     replace hf14_1 := hf14_1.step hst
     replace hf14_2 := hf14_2.step hst
     replace ho61 := ho61.step hst he64 (hms.apart 0 1 rfl rfl rfl)
     replace hms := hms.ev he64
     replace hev := hev.then he64 (fun b hb => .inr (hfr.at 1 rfl b hb))
     replace hb58 := hb64
     refine x_ek ?_
     refine c_seq ?_
     refine c_drawn [] [(0, false), (1, false), (2, false), (3, false), (4, false), (5, false), (6, false), (7, false), (8, false), (9, false), (10, false), (11, false), (12, true)] _ (by kernel_rfl) rfl ?_
     have hst := Stp.ext (ls := [blk a63, [b58], [b10], [b17], M]) (Ev.drew w64)
     replace hb10 := (Ev.drew w64).box hb10 nn
     replace hf8_1 := hf8_1.step hst
     replace hb17 := (Ev.drew w64).box hb17 nn
     replace hf14_1 := hf14_1.step hst
     replace hf14_2 := hf14_2.step hst
     replace hb58 := (Ev.drew w64).box hb58 nn
     replace ho61 := ho61.step hst (Ev.drew w64) nn2
     replace hms := hms.ev (Ev.drew w64)
     replace hev := hev.ext (Ev.drew w64)
     refine x_fieldAddr (xv := Vp b58 0) (Vp b58 0) rfl rfl rfl (reads_field tfld29_0 _ _) ?_
     refine x_fieldAddr (xv := Vp b58 0) (Vp b58 1) rfl rfl rfl (reads_field tfld27_1 _ _) ?_
     refine x_load (xv := Vp b58 1) (.slice a63 ((([] : List Int) ++ x13.1.1.2)).length c63) rfl rfl rfl (reads_box tcell22 hb58 nn 1 _ rfl) ?_
     refine x_pure 1 [(123, Vi t68__s68_l43)] _ _ _ (by kernel_rfl) ?_
     refine x_fieldAddr (xv := Vp b17 0) (Vp b17 0) rfl rfl rfl (reads_field tfld29_0 _ _) ?_
     refine x_fieldAddr (xv := Vp b17 0) (Vp b17 1) rfl rfl rfl (reads_field tfld27_1 _ _) ?_
     refine x_load (xv := Vp b17 1) (.slice a0_14 (x13.1.1.2).length c0_14) rfl rfl rfl (reads_box tcell22 hb17 nn 1 _ rfl) ?_
     refine x_pure 1 [(127, Vi t68__s68_l43)] _ _ _ (by kernel_rfl) ?_
     obtain ⟨x65, hx65, h⟩ := bind_some h
     obtain ⟨ad65, cs65, hr65, hc65, hR⟩ := reads_index (Mo := []) tsl22 hf14_1 hx65
     obtain rfl := hR
     refine x_indexAddr (xv := .slice a0_14 (x13.1.1.2).length c0_14) (yv := Vi t68__s68_l43) (.pointer (some ad65)) rfl rfl rfl rfl hr65 ?_
     refine x_load (xv := .pointer (some ad65)) (Vi x65) rfl rfl rfl (reads_cell0 tcell3 hc65 (fun _ h => by cases h)) ?_
     refine x_pure 1 [(130, Vi (IntKind.i64.wrap (x65 - 1)))] _ _ _ (by kernel_rfl) ?_
     obtain ⟨x67, hx67, h⟩ := bind_some h
     obtain ⟨g67, cs67, ha, hr67, hc67, hR⟩ := own_index (Mo := []) tsl22 ho61 hx67
     subst ha
     obtain rfl := hR
     refine x_indexAddr (xv := .slice (Ad g67 0) ((([] : List Int) ++ x13.1.1.2)).length c63) (yv := Vi t68__s68_l43) (.pointer (some ⟨g67, (Int.toNat t68__s68_l43) * (eInt .i64).n, none⟩)) rfl rfl rfl rfl hr67 ?_
     obtain ⟨w69, hr69, he69, ho69⟩ := own_store (y := IntKind.i64.wrap (x65 - 1)) 0 (Vi (IntKind.i64.wrap (x65 - 1))) tcell3 ho61 (mem_flat 0 rfl _ mem1) hx67 rfl rfl (fun _ _ _ hR => set_int hR)
     refine x_store w69 (xv := .pointer (some ⟨g67, (Int.toNat t68__s68_l43) * (eInt .i64).n, none⟩)) (yv := Vi (IntKind.i64.wrap (x65 - 1))) rfl rfl rfl rfl hr69 ?_
     refine inl1 ?_
     have hst := Stp.ev' (ls := [blk (Ad g67 0), [b58], [b10], [b17], M]) he69 (mem_flat 0 rfl)
     replace hb10 := he69.box hb10 (hms.apart 2 0 rfl rfl rfl _ mem1)
     replace hf8_1 := hf8_1.step hst
     replace hb17 := he69.box hb17 (hms.apart 3 0 rfl rfl rfl _ mem1)
     replace hf14_1 := hf14_1.step hst
     replace hf14_2 := hf14_2.step hst
     replace hb58 := he69.box hb58 (hms.apart 1 0 rfl rfl rfl _ mem1)
     replace hc65 := hc65.step hst
     replace hms := hms.ev he69
     replace hev := hev.then he69 (fun b hb => .inr (hfr.at 0 rfl b hb))
     replace ho61 := ho69
     have hsl : (Value.slice (Ad g67 0) ((([] : List Int) ++ x13.1.1.2)).length c63) = (Value.slice (Ad g67 0) (((([] : List Int) ++ x13.1.1.2).set (Int.toNat t68__s68_l43) (IntKind.i64.wrap (x65 - 1)))).length c63) := by first | (rw [List.length_set]; done) | simp only [List.length_set]
     rw [hsl] at hb58
     try rw [hsl]
     clear hsl
     refine x_ek ?_
     refine c_norm [(6, Vp b10 0), (7, Vp b17 0), (12, Vi t68__s68_l43), (14, Vp b58 0), (67, Vi ((x13.1.1.2).length : Int)), (68, Vi t68__s68_l43), (74, Vi ((x13.1.1.2).length : Int)), (75, Vi t75__s75_l45)] ⟨rfl, rfl, rfl, rfl, rfl, rfl, rfl, rfl, trivial⟩ (fun J => ?_)
     refine c_sp ?_
     refine x_load (xv := Vp b10 0) (.agg #[.slice a0_8 (x7.1.1).length c0_8, Vi x7.1.2]) rfl rfl rfl (reads_boxagg 0 [.slice a0_8 (x7.1.1).length c0_8, Vi x7.1.2] tagg25 hb10 nn rfl) ?_
     refine x_load (xv := Vp b58 0) (.agg #[Vi x13.1.1.1, .slice (Ad g67 0) (((([] : List Int) ++ x13.1.1.2).set (Int.toNat t68__s68_l43) (IntKind.i64.wrap (x65 - 1)))).length c63, .slice a2_14 (x13.1.2).length c2_14]) rfl rfl rfl (reads_boxagg 0 [Vi x13.1.1.1, .slice (Ad g67 0) (((([] : List Int) ++ x13.1.1.2).set (Int.toNat t68__s68_l43) (IntKind.i64.wrap (x65 - 1)))).length c63, .slice a2_14 (x13.1.2).length c2_14] tagg29 hb58 nn rfl) ?_
     obtain ⟨x70, hx, h⟩ := bind_some h
     have hpk : MS w69 ([] ++ [[b58], [b10], [b17], M]) := hms.pick [some 1, some 2, some 3, some 4] _ rfl
     have hsb0 : ∀ x ∈ fl ([] ++ [[b58], [b10], [b17], M]), x ∈ fl [blk (Ad g67 0), [b58], [b10], [b17], M] := pick_sub [some 1, some 2, some 3, some 4] _ rfl
     have hsb : ∀ x ∈ fl ([] ++ [(fl [[b58], [b10], [b17], M])]), x ∈ fl [blk (Ad g67 0), [b58], [b10], [b17], M] := fun x hx => hsb0 x (fl_unfold x hx)
     have hcall := certificate_Check_w a0_8 c0_8 x7.1.1 x7.1.2 x13.1.1.1 (Ad g67 0) c63 ((([] : List Int) ++ x13.1.1.2).set (Int.toNat t68__s68_l43) (IntKind.i64.wrap (x65 - 1))) a2_14 c2_14 x13.1.2 _ w69 (fl [[b58], [b10], [b17], M]) (MS.fold (P := []) hpk) (hf8_1.sub hsb) (ho61.ro hsb (fun b hb hb2 => pick_out hms 0 rfl [some 1, some 2, some 3, some 4] ([] ++ [[b58], [b10], [b17], M]) rfl rfl b hb (fl_unfold b hb2))) (hf14_2.sub hsb) hx
     refine x_call 14 #[] #[] [.agg #[.slice a0_8 (x7.1.1).length c0_8, Vi x7.1.2], .agg #[Vi x13.1.1.1, .slice (Ad g67 0) (((([] : List Int) ++ x13.1.1.2).set (Int.toNat t68__s68_l43) (IntKind.i64.wrap (x65 - 1)))).length c63, .slice a2_14 (x13.1.2).length c2_14]] _ rfl rfl rfl rfl hcall ?_
     rintro v w71 ⟨rfl, he71⟩
     clear hcall hx
     refine inl1 ?_
     have hst := Stp.ext (ls := [blk (Ad g67 0), [b58], [b10], [b17], M]) he71
     replace hb10 := he71.box hb10 nn
     replace hf8_1 := hf8_1.step hst
     replace hb17 := he71.box hb17 nn
     replace hf14_1 := hf14_1.step hst
     replace hf14_2 := hf14_2.step hst
     replace hb58 := he71.box hb58 nn
     replace ho61 := ho61.step hst he71 nn2
     replace hms := hms.ev he71
     replace hev := hev.ext he71
     clear hpk hsb hsb0
     refine x_pure 1 [(15, Vi x70)] _ _ _ (by kernel_rfl) ?_
     refine x_ek ?_
     refine c_sp ?_
     refine x_pure 3 [(135, Vi x70), (136, .bool (x70 != 12)), (137, .bool (x70 != 12))] _ _ _ (by kernel_rfl) ?_
     refine x_split 137 (x70 != 12) rfl (fun hb => ?_) (fun hb => ?_)
     · replace h := ite_t hb h
       refine x_pure 3 [(138, Vi x70), (139, .bool (x70 != 1)), (140, .bool (x70 != 1))] _ _ _ (by kernel_rfl) ?_
       refine x_ek ?_
       refine c_cond (x70 != 1) rfl (fun hb => ?_) (fun hb => ?_)
       · replace h := ite_t hb h
         refine c_sp ?_
         refine x_pure 1 [(4, .bool false)] _ _ _ (by kernel_rfl) ?_
         refine x_ek ?_
         refine c_ret ?_
         refine k_block_ret ?_
         refine k_then_ret ?_
         have hx := some_inj h
         subst hx
         have hy := some_inj hn45
         subst hy
         replace h := h45
         refine k_then_ret ?_
         refine k_block_ret ?_
         refine k_block_ret ?_
         refine k_then_ret ?_
         have hx := some_inj h
         subst hx
         have hy := some_inj hn43
         subst hy
         replace h := h43
         refine k_then_ret ?_
         refine k_block_ret ?_
         refine k_then_ret ?_
         refine r_ret (r_vals [.bool false] ⟨rfl, trivial⟩ ?_)
         have hx := some_inj h
         subst hx
         have hmr : MS w71 [M] := hms.pick [some 4] _ rfl
         have hsu : ∀ x ∈ fl [M], x ∈ fl [blk (Ad g67 0), [b58], [b10], [b17], M] := pick_sub [some 4] _ rfl
         exact ⟨rfl, hev⟩
       replace h := ite_f hb h
       refine c_skip ?_
       refine k_block ?_
       refine k_then ?_
       refine c_plain ?_
       refine x_pure 2 [(141, Vi (IntKind.i64.wrap (t75__s75_l45 + 1))), (75, Vi (IntKind.i64.wrap (t75__s75_l45 + 1)))] _ _ _ (by kernel_rfl) ?_
       refine x_end rfl ?_
       have hx := some_inj h
       subst hx
       have hpk : MS w71 [[b10], [b17], M] := hms.pick [some 2, some 3, some 4] _ rfl
       have hsu : ∀ x ∈ fl [[b10], [b17], M], x ∈ fl [blk (Ad g67 0), [b58], [b10], [b17], M] := pick_sub [some 2, some 3, some 4] _ rfl
       replace hf8_1 := hf8_1.sub hsu
       replace hf14_1 := hf14_1.sub hsu
       replace hf14_2 := hf14_2.sub hsu
       replace hms := hpk
       replace hfr : FR w.heap.size [[b10], [b17]] := hfr.pick [some 2, some 3] _ rfl
       clear hpk hsu
       exact k_then ⟨(m45, IntKind.i64.wrap (t75__s75_l45 + 1)), ⟨rfl, rfl, rfl, rfl, rfl, rfl, rfl, trivial⟩, ⟨hn45, hev, hms, hfr, hf8_1, hb10, hf14_1, hf14_2, hb17⟩, Nat.lt_succ_self _⟩
     replace h := ite_f hb h
     refine x_pure 3 [(138, undef), (139, undef), (140, .bool false)] _ _ _ (by kernel_rfl) ?_
     refine x_ek ?_
     refine c_false rfl ?_
     refine c_skip ?_
     refine k_block ?_
     refine k_then ?_
     refine c_plain ?_
     refine x_pure 2 [(141, Vi (IntKind.i64.wrap (t75__s75_l45 + 1))), (75, Vi (IntKind.i64.wrap (t75__s75_l45 + 1)))] _ _ _ (by kernel_rfl) ?_
     refine x_end rfl ?_
     have hx := some_inj h
     subst hx
     have hpk : MS w71 [[b10], [b17], M] := hms.pick [some 2, some 3, some 4] _ rfl
     have hsu : ∀ x ∈ fl [[b10], [b17], M], x ∈ fl [blk (Ad g67 0), [b58], [b10], [b17], M] := pick_sub [some 2, some 3, some 4] _ rfl
     replace hf8_1 := hf8_1.sub hsu
     replace hf14_1 := hf14_1.sub hsu
     replace hf14_2 := hf14_2.sub hsu
     replace hms := hpk
     replace hfr : FR w.heap.size [[b10], [b17]] := hfr.pick [some 2, some 3] _ rfl
     clear hpk hsu
     exact k_then ⟨(m45, IntKind.i64.wrap (t75__s75_l45 + 1)), ⟨rfl, rfl, rfl, rfl, rfl, rfl, rfl, trivial⟩, ⟨hn45, hev, hms, hfr, hf8_1, hb10, hf14_1, hf14_2, hb17⟩, Nat.lt_succ_self _⟩
   replace h := ite_f hb h
   refine c_exit ?_
   refine k_then_exit ?_
   have hx := some_inj h
   subst hx
   have hy := some_inj hn45
   subst hy
   replace h := h45
   refine k_then_exit ?_
   refine k_block_in ?_
   refine k_block ?_
   refine k_then ?_
   refine c_norm [(6, Vp b10 0), (7, Vp b17 0), (67, Vi ((x13.1.1.2).length : Int)), (68, Vi t68__s68_l43)] ⟨rfl, rfl, rfl, rfl, trivial⟩ (fun J => ?_)
   refine c_plain ?_
   refine x_pure 2 [(142, Vi (IntKind.i64.wrap (t68__s68_l43 + 1))), (68, Vi (IntKind.i64.wrap (t68__s68_l43 + 1)))] _ _ _ (by kernel_rfl) ?_
   refine x_end rfl ?_
   have hx := some_inj h
   subst hx
   exact k_then ⟨(m43, IntKind.i64.wrap (t68__s68_l43 + 1)), ⟨rfl, rfl, rfl, rfl, trivial⟩, ⟨hn43, hev, hms, hfr, hf8_1, hb10, hf14_1, hf14_2, hb17⟩, Nat.lt_succ_self _⟩
 replace h := ite_f hb h
 refine c_exit ?_
 refine k_then_exit ?_
 have hx := some_inj h
 subst hx
 have hy := some_inj hn43
 subst hy
 replace h := h43
 refine k_then_exit ?_
 refine k_block_in ?_
 refine k_then ?_
 refine c_norm [] trivial (fun J => ?_)
 refine c_sp ?_
 obtain ⟨x72, hx, h⟩ := bind_some h
 have hcall := law15_sane_w _ wl43 hx
 refine x_call 17 #[] #[] [] _ rfl rfl rfl rfl hcall ?_
 rintro v w73 ⟨rfl, he73⟩
 clear hcall hx
 refine inl1 ?_
 have hst := Stp.ext (ls := [[b10], [b17], M]) he73
 replace hb10 := he73.box hb10 nn
 replace hf8_1 := hf8_1.step hst
 replace hb17 := he73.box hb17 nn
 replace hf14_1 := hf14_1.step hst
 replace hf14_2 := hf14_2.step hst
 replace hms := hms.ev he73
 replace hev := hev.ext he73
 refine x_pure 1 [(4, .bool x72)] _ _ _ (by kernel_rfl) ?_
 refine x_ek ?_
 refine c_ret ?_
 refine r_ret (r_vals [.bool x72] ⟨rfl, trivial⟩ ?_)
 have hx := some_inj h
 subst hx
 have hmr : MS w73 [M] := hms.pick [some 2] _ rfl
 have hsu : ∀ x ∈ fl [M], x ∈ fl [[b10], [b17], M] := pick_sub [some 2] _ rfl
 exact ⟨rfl, hev⟩
end Go.Proofs.Ytcignnfdpgeogaa
