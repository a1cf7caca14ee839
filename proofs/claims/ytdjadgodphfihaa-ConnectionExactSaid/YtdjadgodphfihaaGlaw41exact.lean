/- Walks, printed by program: each function returns what the partial function of the same name returns. Conditions: those of each theorem. -/
import Derived.Test.YtdjadgodphfihaaGT
import Derived.Test.YtdjadgodphfihaaGconnection
import Derived.Test.YtdjadgodphfihaaGgen
import Derived.Test.YtdjadgodphfihaaGr41
set_option linter.unusedVariables false
set_option linter.unusedSimpArgs false
set_option maxRecDepth 4000
namespace Go.Proofs.Ytdjadgodphfihaa
open Go Go.V Go.Proofs
def law41_exact (p0_0 : Int) (p0_1 : Int) (p0_2 : List Int) (p0_3 : Int) (p0_4 : Int) (p1 : Int) : Option Bool :=
((connection_Left p0_0 p0_1 p0_2 p0_3 p0_4 p1).bind fun x4 =>
((r41_Left p0_0 p0_1 p0_2 p0_3 p0_4 p1).bind fun x7 =>
((connection_Cost p0_0 p0_1 p0_2 p0_3 p0_4 p1).bind fun x10 =>
((r41_Cost p0_0 p0_1 p0_2 p0_3 p0_4 p1).bind fun x12 =>
((connection_Best p0_0 p0_1 p0_2 p0_3 p0_4).bind fun x14 =>
((r41_Best p0_0 p0_1 p0_2 p0_3 p0_4).bind fun x16 =>
((connection_Saves p0_0 p0_1 p0_2 p0_3 p0_4).bind fun x18 =>
((r41_Saves p0_0 p0_1 p0_2 p0_3 p0_4).bind fun x21 =>
((connection_Valid p0_0 p0_1 p0_2 p0_3 p0_4).bind fun x24 =>
((r41_Valid p0_0 p0_1 p0_2 p0_3 p0_4).bind fun x26 =>
(if (x24 == x26) = true then
((gen_Ints x4.1 x7.1).bind fun x28 =>
(if x28 = true then
(if (x4.2 == x7.2) = true then
(if (x10.1 == x12.1) = true then
(if (x10.2 == x12.2) = true then
(if (x14.1 == x16.1) = true then
(if (x14.2.1 == x16.2.1) = true then
(if (x14.2.2 == x16.2.2) = true then
((gen_Ints x18.1 x21.1).bind fun x30 =>
(if x30 = true then
some (x18.2 == x21.2)
else
some false))
else
some false)
else
some false)
else
some false)
else
some false)
else
some false)
else
some false)
else
some false))
else
some false)))))))))))

theorem law41_exact_w (p0_0 : Int) (p0_1 : Int) (a_p0_2 : Option Addr) (c_p0_2 : Nat) (p0_2 : List Int) (p0_3 : Int) (p0_4 : Int) (p1 : Int) (r : Bool) (w : World) (M : List Nat) (hms : MS w [M]) (hs_p0_2 : SlR (eInt .i64) w (fl [M]) a_p0_2 c_p0_2 p0_2) (h : law41_exact p0_0 p0_1 p0_2 p0_3 p0_4 p1 = some r) : CallVC Try.prog 10 [.agg #[Vi p0_0, Vi p0_1, .slice a_p0_2 (p0_2).length c_p0_2, Vi p0_3, Vi p0_4], Vi p1] w fun v w' => v = .bool r ∧ Ev [] w w' := by
 refine calls_vc hmx Try.func10 (by kernel_rfl) rfl (rs := [.tmp 4]) rfl (by kernel_rfl) (args := [.agg #[Vi p0_0, Vi p0_1, .slice a_p0_2 (p0_2).length c_p0_2, Vi p0_3, Vi p0_4], Vi p1]) rfl ?_
 have hev : Ev [] w w := Ev.refl _ _
 have hfr : FR w.heap.size [] := FR.nil _
 refine c_sp ?_
 refine x_box (xv := .agg #[Vi p0_0, Vi p0_1, .slice a_p0_2 (p0_2).length c_p0_2, Vi p0_3, Vi p0_4]) rfl rfl rfl (fun b2 w2 hq2 hb2 he2 hz2 => ?_)
 replace hb2 : w2.heap[b2]? = some (.cells #[Vi p0_0, Vi p0_1, .slice a_p0_2 (p0_2).length c_p0_2, Vi p0_3, Vi p0_4] 24 (0, 0)) := hb2
 refine inl1 ?_
 have hst := Stp.box (ls := [M]) he2 hq2
 replace hs_p0_2 := hs_p0_2.step hst
 replace hms := hms.box he2 hq2 hb2
 replace hfr := hfr.box hev.size hq2
 replace hev := hev.ext he2
 refine x_pure 1 [(4, .bool false)] _ _ _ (by kernel_rfl) ?_
 refine x_ek ?_
 refine c_sp ?_
 refine x_load (xv := Vp b2 0) (.agg #[Vi p0_0, Vi p0_1, .slice a_p0_2 (p0_2).length c_p0_2, Vi p0_3, Vi p0_4]) rfl rfl rfl (reads_boxagg 0 [Vi p0_0, Vi p0_1, .slice a_p0_2 (p0_2).length c_p0_2, Vi p0_3, Vi p0_4] tagg24 hb2 nn rfl) ?_
 refine x_pure 1 [(25, Vi p1)] _ _ _ (by kernel_rfl) ?_
 obtain ⟨x4, hx, h⟩ := bind_some h
 have hpk : MS w2 ([] ++ [[b2], M]) := hms.pick [some 0, some 1] _ rfl
 have hsb0 : ∀ x ∈ fl ([] ++ [[b2], M]), x ∈ fl [[b2], M] := pick_sub [some 0, some 1] _ rfl
 have hsb : ∀ x ∈ fl ([] ++ [(fl [[b2], M])]), x ∈ fl [[b2], M] := fun x hx => hsb0 x (fl_unfold x hx)
 have hcall := connection_Left_w p0_0 p0_1 a_p0_2 c_p0_2 p0_2 p0_3 p0_4 p1 _ w2 (fl [[b2], M]) (MS.fold (P := []) hpk) (hs_p0_2.sub hsb) hx
 refine x_call 17 #[] #[] [.agg #[Vi p0_0, Vi p0_1, .slice a_p0_2 (p0_2).length c_p0_2, Vi p0_3, Vi p0_4], Vi p1] _ rfl rfl rfl rfl hcall ?_
 rintro v w5 ⟨a0_5, c0_5, rfl, he5, hmn5, hfn5, hf5_1⟩
 clear hcall hx
 refine inl1 ?_
 have hpk2 : MS w2 ([] ++ [[b2], M]) := hms.pick [some 0, some 1] _ rfl
 have hsb2 : ∀ x ∈ fl ([] ++ [[b2], M]), x ∈ fl [[b2], M] := pick_sub [some 0, some 1] _ rfl
 have hst0 := Stp.call (LS := [[b2], M]) (res := [blk a0_5]) (par := []) (R := [[b2], M]) he5 (fun b hb => hsb2 b (fl_left' (P := []) b hb)) hfn5 (NP.init _ _) (fun x hx => hsb2 x (fl_right' (P := []) x hx))
 have hsn : ∀ x ∈ fl [blk a0_5, [b2], M], x ∈ fl ([blk a0_5] ++ ([] ++ [[b2], M])) := pick_sub [some 0, some 1, some 2] _ rfl
 have hst := hst0.res hsn
 replace hs_p0_2 := hs_p0_2.step hst
 replace hb2 := he5.box hb2 ((MS.outs (P := []) hpk2 0 rfl) _ mem1)
 replace hms : MS w5 [blk a0_5, [b2], M] := (MS.call (P := []) (R := [[b2], M]) (res := [blk a0_5]) (par := []) hpk2 he5 hmn5 hfn5 (NP.init _ _)).pick [some 0, some 1, some 2] _ rfl
 have hfr2 : FR w.heap.size [blk a0_5, [b2]] := (FR.cons (fun b hb => Nat.le_trans hev.size (hfn5.at 0 rfl b hb)) (FR.cons (hfr.at 0 rfl) (FR.nil _)))
 replace hev := hev.ext he5
 replace hfr := hfr2
 clear hfr2
 replace hf5_1 := OwnS.plain (M' := fl [blk a0_5, [b2], M]) (plain_int _) hf5_1
 clear hpk hsb hsb0 hpk2 hsb2 hst0 hsn hst
 have hpk : MS w5 [[b2], M] := hms.pick [some 1, some 2] _ rfl
 have hsu : ∀ x ∈ fl [[b2], M], x ∈ fl [blk a0_5, [b2], M] := pick_sub [some 1, some 2] _ rfl
 replace hs_p0_2 := hs_p0_2.sub hsu
 replace hf5_1 := hf5_1.ro hsu (pick_out hms 0 rfl [some 1, some 2] [[b2], M] rfl rfl)
 replace hms := hpk
 replace hfr : FR w.heap.size [[b2]] := hfr.pick [some 1] _ rfl
 clear hpk hsu
 refine x_pure 5 [(23, .tuple #[.slice a0_5 (x4.1).length c0_5, Vi x4.2]), (27, .slice a0_5 (x4.1).length c0_5), (28, Vi x4.2), (5, .slice a0_5 (x4.1).length c0_5), (6, Vi x4.2)] _ _ _ (by kernel_rfl) ?_
 refine x_ek ?_
 refine c_sp ?_
 refine x_load (xv := Vp b2 0) (.agg #[Vi p0_0, Vi p0_1, .slice a_p0_2 (p0_2).length c_p0_2, Vi p0_3, Vi p0_4]) rfl rfl rfl (reads_boxagg 0 [Vi p0_0, Vi p0_1, .slice a_p0_2 (p0_2).length c_p0_2, Vi p0_3, Vi p0_4] tagg24 hb2 nn rfl) ?_
 refine x_pure 1 [(31, Vi p1)] _ _ _ (by kernel_rfl) ?_
 obtain ⟨x7, hx, h⟩ := bind_some h
 have hpk : MS w5 ([] ++ [[b2], M]) := hms.pick [some 0, some 1] _ rfl
 have hsb0 : ∀ x ∈ fl ([] ++ [[b2], M]), x ∈ fl [[b2], M] := pick_sub [some 0, some 1] _ rfl
 have hsb : ∀ x ∈ fl ([] ++ [(fl [[b2], M])]), x ∈ fl [[b2], M] := fun x hx => hsb0 x (fl_unfold x hx)
 have hcall := r41_Left_w p0_0 p0_1 a_p0_2 c_p0_2 p0_2 p0_3 p0_4 p1 _ w5 (fl [[b2], M]) (MS.fold (P := []) hpk) (hs_p0_2.sub hsb) hx
 refine x_call 18 #[] #[] [.agg #[Vi p0_0, Vi p0_1, .slice a_p0_2 (p0_2).length c_p0_2, Vi p0_3, Vi p0_4], Vi p1] _ rfl rfl rfl rfl hcall ?_
 rintro v w8 ⟨a0_8, c0_8, rfl, he8, hmn8, hfn8, hf8_1⟩
 clear hcall hx
 refine inl1 ?_
 have hpk2 : MS w5 ([] ++ [[b2], M]) := hms.pick [some 0, some 1] _ rfl
 have hsb2 : ∀ x ∈ fl ([] ++ [[b2], M]), x ∈ fl [[b2], M] := pick_sub [some 0, some 1] _ rfl
 have hst0 := Stp.call (LS := [[b2], M]) (res := [blk a0_8]) (par := []) (R := [[b2], M]) he8 (fun b hb => hsb2 b (fl_left' (P := []) b hb)) hfn8 (NP.init _ _) (fun x hx => hsb2 x (fl_right' (P := []) x hx))
 have hsn : ∀ x ∈ fl [blk a0_8, [b2], M], x ∈ fl ([blk a0_8] ++ ([] ++ [[b2], M])) := pick_sub [some 0, some 1, some 2] _ rfl
 have hst := hst0.res hsn
 replace hs_p0_2 := hs_p0_2.step hst
 replace hb2 := he8.box hb2 ((MS.outs (P := []) hpk2 0 rfl) _ mem1)
 replace hf5_1 := hf5_1.step hst
 replace hms : MS w8 [blk a0_8, [b2], M] := (MS.call (P := []) (R := [[b2], M]) (res := [blk a0_8]) (par := []) hpk2 he8 hmn8 hfn8 (NP.init _ _)).pick [some 0, some 1, some 2] _ rfl
 have hfr2 : FR w.heap.size [blk a0_8, [b2]] := (FR.cons (fun b hb => Nat.le_trans hev.size (hfn8.at 0 rfl b hb)) (FR.cons (hfr.at 0 rfl) (FR.nil _)))
 replace hev := hev.ext he8
 replace hfr := hfr2
 clear hfr2
 replace hf8_1 := OwnS.plain (M' := fl [blk a0_8, [b2], M]) (plain_int _) hf8_1
 clear hpk hsb hsb0 hpk2 hsb2 hst0 hsn hst
 have hpk : MS w8 [[b2], M] := hms.pick [some 1, some 2] _ rfl
 have hsu : ∀ x ∈ fl [[b2], M], x ∈ fl [blk a0_8, [b2], M] := pick_sub [some 1, some 2] _ rfl
 replace hs_p0_2 := hs_p0_2.sub hsu
 replace hf5_1 := hf5_1.sub hsu
 replace hf8_1 := hf8_1.ro hsu (pick_out hms 0 rfl [some 1, some 2] [[b2], M] rfl rfl)
 replace hms := hpk
 replace hfr : FR w.heap.size [[b2]] := hfr.pick [some 1] _ rfl
 clear hpk hsu
 refine x_pure 5 [(29, .tuple #[.slice a0_8 (x7.1).length c0_8, Vi x7.2]), (33, .slice a0_8 (x7.1).length c0_8), (34, Vi x7.2), (7, .slice a0_8 (x7.1).length c0_8), (8, Vi x7.2)] _ _ _ (by kernel_rfl) ?_
 refine x_ek ?_
 refine c_norm [(1, Vi p1), (2, Vp b2 0), (5, .slice a0_5 (x4.1).length c0_5), (6, Vi x4.2), (7, .slice a0_8 (x7.1).length c0_8), (8, Vi x7.2)] ⟨rfl, rfl, rfl, rfl, rfl, rfl, trivial⟩ (fun J => ?_)
 refine c_sp ?_
 refine x_load (xv := Vp b2 0) (.agg #[Vi p0_0, Vi p0_1, .slice a_p0_2 (p0_2).length c_p0_2, Vi p0_3, Vi p0_4]) rfl rfl rfl (reads_boxagg 0 [Vi p0_0, Vi p0_1, .slice a_p0_2 (p0_2).length c_p0_2, Vi p0_3, Vi p0_4] tagg24 hb2 nn rfl) ?_
 refine x_pure 1 [(37, Vi p1)] _ _ _ (by kernel_rfl) ?_
 obtain ⟨x10, hx, h⟩ := bind_some h
 have hpk : MS w8 ([] ++ [[b2], M]) := hms.pick [some 0, some 1] _ rfl
 have hsb0 : ∀ x ∈ fl ([] ++ [[b2], M]), x ∈ fl [[b2], M] := pick_sub [some 0, some 1] _ rfl
 have hsb : ∀ x ∈ fl ([] ++ [(fl [[b2], M])]), x ∈ fl [[b2], M] := fun x hx => hsb0 x (fl_unfold x hx)
 have hcall := connection_Cost_w p0_0 p0_1 a_p0_2 c_p0_2 p0_2 p0_3 p0_4 p1 _ w8 (fl [[b2], M]) (MS.fold (P := []) hpk) (hs_p0_2.sub hsb) hx
 refine x_call 14 #[] #[] [.agg #[Vi p0_0, Vi p0_1, .slice a_p0_2 (p0_2).length c_p0_2, Vi p0_3, Vi p0_4], Vi p1] _ rfl rfl rfl rfl hcall ?_
 rintro v w11 ⟨rfl, he11⟩
 clear hcall hx
 refine inl1 ?_
 have hst := Stp.ext (ls := [[b2], M]) he11
 replace hs_p0_2 := hs_p0_2.step hst
 replace hb2 := he11.box hb2 nn
 replace hf5_1 := hf5_1.step hst
 replace hf8_1 := hf8_1.step hst
 replace hms := hms.ev he11
 replace hev := hev.ext he11
 clear hpk hsb hsb0
 refine x_pure 5 [(35, .tuple #[Vi x10.1, Vi x10.2]), (39, Vi x10.1), (40, Vi x10.2), (9, Vi x10.1), (10, Vi x10.2)] _ _ _ (by kernel_rfl) ?_
 refine x_ek ?_
 refine c_sp ?_
 refine x_load (xv := Vp b2 0) (.agg #[Vi p0_0, Vi p0_1, .slice a_p0_2 (p0_2).length c_p0_2, Vi p0_3, Vi p0_4]) rfl rfl rfl (reads_boxagg 0 [Vi p0_0, Vi p0_1, .slice a_p0_2 (p0_2).length c_p0_2, Vi p0_3, Vi p0_4] tagg24 hb2 nn rfl) ?_
 refine x_pure 1 [(43, Vi p1)] _ _ _ (by kernel_rfl) ?_
 obtain ⟨x12, hx, h⟩ := bind_some h
 have hpk : MS w11 ([] ++ [[b2], M]) := hms.pick [some 0, some 1] _ rfl
 have hsb0 : ∀ x ∈ fl ([] ++ [[b2], M]), x ∈ fl [[b2], M] := pick_sub [some 0, some 1] _ rfl
 have hsb : ∀ x ∈ fl ([] ++ [(fl [[b2], M])]), x ∈ fl [[b2], M] := fun x hx => hsb0 x (fl_unfold x hx)
 have hcall := r41_Cost_w p0_0 p0_1 a_p0_2 c_p0_2 p0_2 p0_3 p0_4 p1 _ w11 (fl [[b2], M]) (MS.fold (P := []) hpk) (hs_p0_2.sub hsb) hx
 refine x_call 19 #[] #[] [.agg #[Vi p0_0, Vi p0_1, .slice a_p0_2 (p0_2).length c_p0_2, Vi p0_3, Vi p0_4], Vi p1] _ rfl rfl rfl rfl hcall ?_
 rintro v w13 ⟨rfl, he13⟩
 clear hcall hx
 refine inl1 ?_
 have hst := Stp.ext (ls := [[b2], M]) he13
 replace hs_p0_2 := hs_p0_2.step hst
 replace hb2 := he13.box hb2 nn
 replace hf5_1 := hf5_1.step hst
 replace hf8_1 := hf8_1.step hst
 replace hms := hms.ev he13
 replace hev := hev.ext he13
 clear hpk hsb hsb0
 refine x_pure 5 [(41, .tuple #[Vi x12.1, Vi x12.2]), (45, Vi x12.1), (46, Vi x12.2), (11, Vi x12.1), (12, Vi x12.2)] _ _ _ (by kernel_rfl) ?_
 refine x_ek ?_
 refine c_norm [(2, Vp b2 0), (5, .slice a0_5 (x4.1).length c0_5), (6, Vi x4.2), (7, .slice a0_8 (x7.1).length c0_8), (8, Vi x7.2), (9, Vi x10.1), (10, Vi x10.2), (11, Vi x12.1), (12, Vi x12.2)] ⟨rfl, rfl, rfl, rfl, rfl, rfl, rfl, rfl, rfl, trivial⟩ (fun J => ?_)
 refine c_sp ?_
 refine x_load (xv := Vp b2 0) (.agg #[Vi p0_0, Vi p0_1, .slice a_p0_2 (p0_2).length c_p0_2, Vi p0_3, Vi p0_4]) rfl rfl rfl (reads_boxagg 0 [Vi p0_0, Vi p0_1, .slice a_p0_2 (p0_2).length c_p0_2, Vi p0_3, Vi p0_4] tagg24 hb2 nn rfl) ?_
 obtain ⟨x14, hx, h⟩ := bind_some h
 have hpk : MS w13 ([] ++ [[b2], M]) := hms.pick [some 0, some 1] _ rfl
 have hsb0 : ∀ x ∈ fl ([] ++ [[b2], M]), x ∈ fl [[b2], M] := pick_sub [some 0, some 1] _ rfl
 have hsb : ∀ x ∈ fl ([] ++ [(fl [[b2], M])]), x ∈ fl [[b2], M] := fun x hx => hsb0 x (fl_unfold x hx)
 have hcall := connection_Best_w p0_0 p0_1 a_p0_2 c_p0_2 p0_2 p0_3 p0_4 _ w13 (fl [[b2], M]) (MS.fold (P := []) hpk) (hs_p0_2.sub hsb) hx
 refine x_call 13 #[] #[] [.agg #[Vi p0_0, Vi p0_1, .slice a_p0_2 (p0_2).length c_p0_2, Vi p0_3, Vi p0_4]] _ rfl rfl rfl rfl hcall ?_
 rintro v w15 ⟨rfl, he15⟩
 clear hcall hx
 refine inl1 ?_
 have hst := Stp.ext (ls := [[b2], M]) he15
 replace hs_p0_2 := hs_p0_2.step hst
 replace hb2 := he15.box hb2 nn
 replace hf5_1 := hf5_1.step hst
 replace hf8_1 := hf8_1.step hst
 replace hms := hms.ev he15
 replace hev := hev.ext he15
 clear hpk hsb hsb0
 refine x_pure 7 [(47, .tuple #[Vi x14.1, Vi x14.2.1, Vi x14.2.2]), (50, Vi x14.1), (51, Vi x14.2.1), (52, Vi x14.2.2), (13, Vi x14.1), (14, Vi x14.2.1), (15, Vi x14.2.2)] _ _ _ (by kernel_rfl) ?_
 refine x_ek ?_
 refine c_sp ?_
 refine x_load (xv := Vp b2 0) (.agg #[Vi p0_0, Vi p0_1, .slice a_p0_2 (p0_2).length c_p0_2, Vi p0_3, Vi p0_4]) rfl rfl rfl (reads_boxagg 0 [Vi p0_0, Vi p0_1, .slice a_p0_2 (p0_2).length c_p0_2, Vi p0_3, Vi p0_4] tagg24 hb2 nn rfl) ?_
 obtain ⟨x16, hx, h⟩ := bind_some h
 have hpk : MS w15 ([] ++ [[b2], M]) := hms.pick [some 0, some 1] _ rfl
 have hsb0 : ∀ x ∈ fl ([] ++ [[b2], M]), x ∈ fl [[b2], M] := pick_sub [some 0, some 1] _ rfl
 have hsb : ∀ x ∈ fl ([] ++ [(fl [[b2], M])]), x ∈ fl [[b2], M] := fun x hx => hsb0 x (fl_unfold x hx)
 have hcall := r41_Best_w p0_0 p0_1 a_p0_2 c_p0_2 p0_2 p0_3 p0_4 _ w15 (fl [[b2], M]) (MS.fold (P := []) hpk) (hs_p0_2.sub hsb) hx
 refine x_call 20 #[] #[] [.agg #[Vi p0_0, Vi p0_1, .slice a_p0_2 (p0_2).length c_p0_2, Vi p0_3, Vi p0_4]] _ rfl rfl rfl rfl hcall ?_
 rintro v w17 ⟨rfl, he17⟩
 clear hcall hx
 refine inl1 ?_
 have hst := Stp.ext (ls := [[b2], M]) he17
 replace hs_p0_2 := hs_p0_2.step hst
 replace hb2 := he17.box hb2 nn
 replace hf5_1 := hf5_1.step hst
 replace hf8_1 := hf8_1.step hst
 replace hms := hms.ev he17
 replace hev := hev.ext he17
 clear hpk hsb hsb0
 refine x_pure 7 [(53, .tuple #[Vi x16.1, Vi x16.2.1, Vi x16.2.2]), (56, Vi x16.1), (57, Vi x16.2.1), (58, Vi x16.2.2), (16, Vi x16.1), (17, Vi x16.2.1), (18, Vi x16.2.2)] _ _ _ (by kernel_rfl) ?_
 refine x_ek ?_
 refine c_norm [(2, Vp b2 0), (5, .slice a0_5 (x4.1).length c0_5), (6, Vi x4.2), (7, .slice a0_8 (x7.1).length c0_8), (8, Vi x7.2), (9, Vi x10.1), (10, Vi x10.2), (11, Vi x12.1), (12, Vi x12.2), (13, Vi x14.1), (14, Vi x14.2.1), (15, Vi x14.2.2), (16, Vi x16.1), (17, Vi x16.2.1), (18, Vi x16.2.2)] ⟨rfl, rfl, rfl, rfl, rfl, rfl, rfl, rfl, rfl, rfl, rfl, rfl, rfl, rfl, rfl, trivial⟩ (fun J => ?_)
 refine c_sp ?_
 refine x_load (xv := Vp b2 0) (.agg #[Vi p0_0, Vi p0_1, .slice a_p0_2 (p0_2).length c_p0_2, Vi p0_3, Vi p0_4]) rfl rfl rfl (reads_boxagg 0 [Vi p0_0, Vi p0_1, .slice a_p0_2 (p0_2).length c_p0_2, Vi p0_3, Vi p0_4] tagg24 hb2 nn rfl) ?_
 obtain ⟨x18, hx, h⟩ := bind_some h
 have hpk : MS w17 ([] ++ [[b2], M]) := hms.pick [some 0, some 1] _ rfl
 have hsb0 : ∀ x ∈ fl ([] ++ [[b2], M]), x ∈ fl [[b2], M] := pick_sub [some 0, some 1] _ rfl
 have hsb : ∀ x ∈ fl ([] ++ [(fl [[b2], M])]), x ∈ fl [[b2], M] := fun x hx => hsb0 x (fl_unfold x hx)
 have hcall := connection_Saves_w p0_0 p0_1 a_p0_2 c_p0_2 p0_2 p0_3 p0_4 _ w17 (fl [[b2], M]) (MS.fold (P := []) hpk) (hs_p0_2.sub hsb) hx
 refine x_call 15 #[] #[] [.agg #[Vi p0_0, Vi p0_1, .slice a_p0_2 (p0_2).length c_p0_2, Vi p0_3, Vi p0_4]] _ rfl rfl rfl rfl hcall ?_
 rintro v w19 ⟨a0_19, c0_19, rfl, he19, hmn19, hfn19, hf19_1⟩
 clear hcall hx
 refine inl1 ?_
 have hpk2 : MS w17 ([] ++ [[b2], M]) := hms.pick [some 0, some 1] _ rfl
 have hsb2 : ∀ x ∈ fl ([] ++ [[b2], M]), x ∈ fl [[b2], M] := pick_sub [some 0, some 1] _ rfl
 have hst0 := Stp.call (LS := [[b2], M]) (res := [blk a0_19]) (par := []) (R := [[b2], M]) he19 (fun b hb => hsb2 b (fl_left' (P := []) b hb)) hfn19 (NP.init _ _) (fun x hx => hsb2 x (fl_right' (P := []) x hx))
 have hsn : ∀ x ∈ fl [blk a0_19, [b2], M], x ∈ fl ([blk a0_19] ++ ([] ++ [[b2], M])) := pick_sub [some 0, some 1, some 2] _ rfl
 have hst := hst0.res hsn
 replace hs_p0_2 := hs_p0_2.step hst
 replace hb2 := he19.box hb2 ((MS.outs (P := []) hpk2 0 rfl) _ mem1)
 replace hf5_1 := hf5_1.step hst
 replace hf8_1 := hf8_1.step hst
 replace hms : MS w19 [blk a0_19, [b2], M] := (MS.call (P := []) (R := [[b2], M]) (res := [blk a0_19]) (par := []) hpk2 he19 hmn19 hfn19 (NP.init _ _)).pick [some 0, some 1, some 2] _ rfl
 have hfr2 : FR w.heap.size [blk a0_19, [b2]] := (FR.cons (fun b hb => Nat.le_trans hev.size (hfn19.at 0 rfl b hb)) (FR.cons (hfr.at 0 rfl) (FR.nil _)))
 replace hev := hev.ext he19
 replace hfr := hfr2
 clear hfr2
 replace hf19_1 := OwnS.plain (M' := fl [blk a0_19, [b2], M]) (plain_int _) hf19_1
 clear hpk hsb hsb0 hpk2 hsb2 hst0 hsn hst
 have hpk : MS w19 [[b2], M] := hms.pick [some 1, some 2] _ rfl
 have hsu : ∀ x ∈ fl [[b2], M], x ∈ fl [blk a0_19, [b2], M] := pick_sub [some 1, some 2] _ rfl
 replace hs_p0_2 := hs_p0_2.sub hsu
 replace hf5_1 := hf5_1.sub hsu
 replace hf8_1 := hf8_1.sub hsu
 replace hf19_1 := hf19_1.ro hsu (pick_out hms 0 rfl [some 1, some 2] [[b2], M] rfl rfl)
 replace hms := hpk
 replace hfr : FR w.heap.size [[b2]] := hfr.pick [some 1] _ rfl
 clear hpk hsu
 refine x_pure 5 [(59, .tuple #[.slice a0_19 (x18.1).length c0_19, Vi x18.2]), (62, .slice a0_19 (x18.1).length c0_19), (63, Vi x18.2), (19, .slice a0_19 (x18.1).length c0_19), (20, Vi x18.2)] _ _ _ (by kernel_rfl) ?_
 refine x_ek ?_
 refine c_sp ?_
 refine x_load (xv := Vp b2 0) (.agg #[Vi p0_0, Vi p0_1, .slice a_p0_2 (p0_2).length c_p0_2, Vi p0_3, Vi p0_4]) rfl rfl rfl (reads_boxagg 0 [Vi p0_0, Vi p0_1, .slice a_p0_2 (p0_2).length c_p0_2, Vi p0_3, Vi p0_4] tagg24 hb2 nn rfl) ?_
 obtain ⟨x21, hx, h⟩ := bind_some h
 have hpk : MS w19 ([] ++ [[b2], M]) := hms.pick [some 0, some 1] _ rfl
 have hsb0 : ∀ x ∈ fl ([] ++ [[b2], M]), x ∈ fl [[b2], M] := pick_sub [some 0, some 1] _ rfl
 have hsb : ∀ x ∈ fl ([] ++ [(fl [[b2], M])]), x ∈ fl [[b2], M] := fun x hx => hsb0 x (fl_unfold x hx)
 have hcall := r41_Saves_w p0_0 p0_1 a_p0_2 c_p0_2 p0_2 p0_3 p0_4 _ w19 (fl [[b2], M]) (MS.fold (P := []) hpk) (hs_p0_2.sub hsb) hx
 refine x_call 21 #[] #[] [.agg #[Vi p0_0, Vi p0_1, .slice a_p0_2 (p0_2).length c_p0_2, Vi p0_3, Vi p0_4]] _ rfl rfl rfl rfl hcall ?_
 rintro v w22 ⟨a0_22, c0_22, rfl, he22, hmn22, hfn22, hf22_1⟩
 clear hcall hx
 refine inl1 ?_
 have hpk2 : MS w19 ([] ++ [[b2], M]) := hms.pick [some 0, some 1] _ rfl
 have hsb2 : ∀ x ∈ fl ([] ++ [[b2], M]), x ∈ fl [[b2], M] := pick_sub [some 0, some 1] _ rfl
 have hst0 := Stp.call (LS := [[b2], M]) (res := [blk a0_22]) (par := []) (R := [[b2], M]) he22 (fun b hb => hsb2 b (fl_left' (P := []) b hb)) hfn22 (NP.init _ _) (fun x hx => hsb2 x (fl_right' (P := []) x hx))
 have hsn : ∀ x ∈ fl [blk a0_22, [b2], M], x ∈ fl ([blk a0_22] ++ ([] ++ [[b2], M])) := pick_sub [some 0, some 1, some 2] _ rfl
 have hst := hst0.res hsn
 replace hs_p0_2 := hs_p0_2.step hst
 replace hb2 := he22.box hb2 ((MS.outs (P := []) hpk2 0 rfl) _ mem1)
 replace hf5_1 := hf5_1.step hst
 replace hf8_1 := hf8_1.step hst
 replace hf19_1 := hf19_1.step hst
 replace hms : MS w22 [blk a0_22, [b2], M] := (MS.call (P := []) (R := [[b2], M]) (res := [blk a0_22]) (par := []) hpk2 he22 hmn22 hfn22 (NP.init _ _)).pick [some 0, some 1, some 2] _ rfl
 have hfr2 : FR w.heap.size [blk a0_22, [b2]] := (FR.cons (fun b hb => Nat.le_trans hev.size (hfn22.at 0 rfl b hb)) (FR.cons (hfr.at 0 rfl) (FR.nil _)))
 replace hev := hev.ext he22
 replace hfr := hfr2
 clear hfr2
 replace hf22_1 := OwnS.plain (M' := fl [blk a0_22, [b2], M]) (plain_int _) hf22_1
 clear hpk hsb hsb0 hpk2 hsb2 hst0 hsn hst
 have hpk : MS w22 [[b2], M] := hms.pick [some 1, some 2] _ rfl
 have hsu : ∀ x ∈ fl [[b2], M], x ∈ fl [blk a0_22, [b2], M] := pick_sub [some 1, some 2] _ rfl
 replace hs_p0_2 := hs_p0_2.sub hsu
 replace hf5_1 := hf5_1.sub hsu
 replace hf8_1 := hf8_1.sub hsu
 replace hf19_1 := hf19_1.sub hsu
 replace hf22_1 := hf22_1.ro hsu (pick_out hms 0 rfl [some 1, some 2] [[b2], M] rfl rfl)
 replace hms := hpk
 replace hfr : FR w.heap.size [[b2]] := hfr.pick [some 1] _ rfl
 clear hpk hsu
 refine x_pure 5 [(64, .tuple #[.slice a0_22 (x21.1).length c0_22, Vi x21.2]), (67, .slice a0_22 (x21.1).length c0_22), (68, Vi x21.2), (21, .slice a0_22 (x21.1).length c0_22), (22, Vi x21.2)] _ _ _ (by kernel_rfl) ?_
 refine x_ek ?_
 refine c_norm [(2, Vp b2 0), (5, .slice a0_5 (x4.1).length c0_5), (6, Vi x4.2), (7, .slice a0_8 (x7.1).length c0_8), (8, Vi x7.2), (9, Vi x10.1), (10, Vi x10.2), (11, Vi x12.1), (12, Vi x12.2), (13, Vi x14.1), (14, Vi x14.2.1), (15, Vi x14.2.2), (16, Vi x16.1), (17, Vi x16.2.1), (18, Vi x16.2.2), (19, .slice a0_19 (x18.1).length c0_19), (20, Vi x18.2), (21, .slice a0_22 (x21.1).length c0_22), (22, Vi x21.2)] ⟨rfl, rfl, rfl, rfl, rfl, rfl, rfl, rfl, rfl, rfl, rfl, rfl, rfl, rfl, rfl, rfl, rfl, rfl, rfl, trivial⟩ (fun J => ?_)
 refine c_seq ?_
 refine c_drawn [] [(0, false), (2, false), (1, false), (3, false), (4, false), (5, false), (6, false), (7, false), (8, false), (9, false), (10, false), (11, false), (12, false), (13, false), (14, false), (15, false), (16, false), (17, false), (18, false), (19, false), (20, false), (21, false), (22, false), (23, false), (24, false), (25, false), (26, false), (27, false), (28, false), (29, false), (30, false), (31, false), (32, false), (33, false), (34, false), (35, false), (36, false), (37, false), (38, false), (39, false), (40, false), (41, false), (42, false), (43, false), (44, false), (45, false), (46, false), (47, false), (48, false), (49, false), (50, false)] _ (by kernel_rfl) rfl ?_
 have hst := Stp.ext (ls := [[b2], M]) (Ev.drew w22)
 replace hs_p0_2 := hs_p0_2.step hst
 replace hb2 := (Ev.drew w22).box hb2 nn
 replace hf5_1 := hf5_1.step hst
 replace hf8_1 := hf8_1.step hst
 replace hf19_1 := hf19_1.step hst
 replace hf22_1 := hf22_1.step hst
 replace hms := hms.ev (Ev.drew w22)
 replace hev := hev.ext (Ev.drew w22)
 refine x_load (xv := Vp b2 0) (.agg #[Vi p0_0, Vi p0_1, .slice a_p0_2 (p0_2).length c_p0_2, Vi p0_3, Vi p0_4]) rfl rfl rfl (reads_boxagg 0 [Vi p0_0, Vi p0_1, .slice a_p0_2 (p0_2).length c_p0_2, Vi p0_3, Vi p0_4] tagg24 hb2 nn rfl) ?_
 refine x_load (xv := Vp b2 0) (.agg #[Vi p0_0, Vi p0_1, .slice a_p0_2 (p0_2).length c_p0_2, Vi p0_3, Vi p0_4]) rfl rfl rfl (reads_boxagg 0 [Vi p0_0, Vi p0_1, .slice a_p0_2 (p0_2).length c_p0_2, Vi p0_3, Vi p0_4] tagg24 hb2 nn rfl) ?_
 obtain ⟨x24, hx, h⟩ := bind_some h
 have hpk : MS (w22).drew ([] ++ [[b2], M]) := hms.pick [some 0, some 1] _ rfl
 have hsb0 : ∀ x ∈ fl ([] ++ [[b2], M]), x ∈ fl [[b2], M] := pick_sub [some 0, some 1] _ rfl
 have hsb : ∀ x ∈ fl ([] ++ [(fl [[b2], M])]), x ∈ fl [[b2], M] := fun x hx => hsb0 x (fl_unfold x hx)
 have hcall := connection_Valid_w p0_0 p0_1 a_p0_2 c_p0_2 p0_2 p0_3 p0_4 _ (w22).drew (fl [[b2], M]) (MS.fold (P := []) hpk) (hs_p0_2.sub hsb) hx
 refine x_call 22 #[] #[] [.agg #[Vi p0_0, Vi p0_1, .slice a_p0_2 (p0_2).length c_p0_2, Vi p0_3, Vi p0_4]] _ rfl rfl rfl rfl hcall ?_
 rintro v w25 ⟨rfl, he25⟩
 clear hcall hx
 refine ⟨.inr he25, ?_⟩
 have hst := Stp.ext (ls := [[b2], M]) he25
 replace hs_p0_2 := hs_p0_2.step hst
 replace hb2 := he25.box hb2 nn
 replace hf5_1 := hf5_1.step hst
 replace hf8_1 := hf8_1.step hst
 replace hf19_1 := hf19_1.step hst
 replace hf22_1 := hf22_1.step hst
 replace hms := hms.ev he25
 replace hev := hev.ext he25
 clear hpk hsb hsb0
 obtain ⟨x26, hx, h⟩ := bind_some h
 have hpk : MS w25 ([] ++ [[b2], M]) := hms.pick [some 0, some 1] _ rfl
 have hsb0 : ∀ x ∈ fl ([] ++ [[b2], M]), x ∈ fl [[b2], M] := pick_sub [some 0, some 1] _ rfl
 have hsb : ∀ x ∈ fl ([] ++ [(fl [[b2], M])]), x ∈ fl [[b2], M] := fun x hx => hsb0 x (fl_unfold x hx)
 have hcall := r41_Valid_w p0_0 p0_1 a_p0_2 c_p0_2 p0_2 p0_3 p0_4 _ w25 (fl [[b2], M]) (MS.fold (P := []) hpk) (hs_p0_2.sub hsb) hx
 refine x_call 23 #[] #[] [.agg #[Vi p0_0, Vi p0_1, .slice a_p0_2 (p0_2).length c_p0_2, Vi p0_3, Vi p0_4]] _ rfl rfl rfl rfl hcall ?_
 rintro v w27 ⟨rfl, he27⟩
 clear hcall hx
 refine ⟨.inr he27, ?_⟩
 have hst := Stp.ext (ls := [[b2], M]) he27
 replace hs_p0_2 := hs_p0_2.step hst
 replace hb2 := he27.box hb2 nn
 replace hf5_1 := hf5_1.step hst
 replace hf8_1 := hf8_1.step hst
 replace hf19_1 := hf19_1.step hst
 replace hf22_1 := hf22_1.step hst
 replace hms := hms.ev he27
 replace hev := hev.ext he27
 clear hpk hsb hsb0
 refine x_binop (.bool (x24 == x26)) (.bool x24) (.bool x26) rfl rfl rfl rfl (vb_booleql tbool4) ?_
 refine x_pure 1 [(74, .bool (x24 == x26))] _ _ _ (by kernel_rfl) ?_
 refine x_split 74 (x24 == x26) rfl (fun hb => ?_) (fun hb => ?_)
 · replace h := ite_t hb h
   refine x_pure 2 [(75, .slice a0_5 (x4.1).length c0_5), (76, .slice a0_8 (x7.1).length c0_8)] _ _ _ (by kernel_rfl) ?_
   obtain ⟨x28, hx, h⟩ := bind_some h
   have hpk : MS w27 ([] ++ [[b2], M]) := hms.pick [some 0, some 1] _ rfl
   have hsb0 : ∀ x ∈ fl ([] ++ [[b2], M]), x ∈ fl [[b2], M] := pick_sub [some 0, some 1] _ rfl
   have hsb : ∀ x ∈ fl ([] ++ [(fl [[b2], M])]), x ∈ fl [[b2], M] := fun x hx => hsb0 x (fl_unfold x hx)
   have hcall := gen_Ints_w a0_5 c0_5 x4.1 a0_8 c0_8 x7.1 _ w27 (fl [[b2], M]) (MS.fold (P := []) hpk) (hf5_1.sub hsb) (hf8_1.sub hsb) hx
   refine x_call 24 #[] #[] [.slice a0_5 (x4.1).length c0_5, .slice a0_8 (x7.1).length c0_8] _ rfl rfl rfl rfl hcall ?_
   rintro v w29 ⟨rfl, he29⟩
   clear hcall hx
   refine ⟨.inr he29, ?_⟩
   have hst := Stp.ext (ls := [[b2], M]) he29
   replace hs_p0_2 := hs_p0_2.step hst
   replace hb2 := he29.box hb2 nn
   replace hf5_1 := hf5_1.step hst
   replace hf8_1 := hf8_1.step hst
   replace hf19_1 := hf19_1.step hst
   replace hf22_1 := hf22_1.step hst
   replace hms := hms.ev he29
   replace hev := hev.ext he29
   clear hpk hsb hsb0
   refine x_pure 2 [(78, .bool x28), (79, .bool x28)] _ _ _ (by kernel_rfl) ?_
   refine x_split 79 x28 rfl (fun hb => ?_) (fun hb => ?_)
   · replace h := ite_t hb h
     refine x_pure 5 [(80, Vi x4.2), (81, Vi x7.2), (82, .bool (x4.2 == x7.2)), (83, .bool (x4.2 == x7.2)), (84, .bool (x4.2 == x7.2))] _ _ _ (by kernel_rfl) ?_
     refine x_split 84 (x4.2 == x7.2) rfl (fun hb => ?_) (fun hb => ?_)
     · replace h := ite_t hb h
       refine x_pure 5 [(85, Vi x10.1), (86, Vi x12.1), (87, .bool (x10.1 == x12.1)), (88, .bool (x10.1 == x12.1)), (89, .bool (x10.1 == x12.1))] _ _ _ (by kernel_rfl) ?_
       refine x_split 89 (x10.1 == x12.1) rfl (fun hb => ?_) (fun hb => ?_)
       · replace h := ite_t hb h
         refine x_pure 5 [(90, Vi x10.2), (91, Vi x12.2), (92, .bool (x10.2 == x12.2)), (93, .bool (x10.2 == x12.2)), (94, .bool (x10.2 == x12.2))] _ _ _ (by kernel_rfl) ?_
         refine x_split 94 (x10.2 == x12.2) rfl (fun hb => ?_) (fun hb => ?_)
         · replace h := ite_t hb h
           refine x_pure 5 [(95, Vi x14.1), (96, Vi x16.1), (97, .bool (x14.1 == x16.1)), (98, .bool (x14.1 == x16.1)), (99, .bool (x14.1 == x16.1))] _ _ _ (by kernel_rfl) ?_
           refine x_split 99 (x14.1 == x16.1) rfl (fun hb => ?_) (fun hb => ?_)
           · replace h := ite_t hb h
             refine x_pure 5 [(100, Vi x14.2.1), (101, Vi x16.2.1), (102, .bool (x14.2.1 == x16.2.1)), (103, .bool (x14.2.1 == x16.2.1)), (104, .bool (x14.2.1 == x16.2.1))] _ _ _ (by kernel_rfl) ?_
             refine x_split 104 (x14.2.1 == x16.2.1) rfl (fun hb => ?_) (fun hb => ?_)
             · replace h := ite_t hb h
               refine x_pure 5 [(105, Vi x14.2.2), (106, Vi x16.2.2), (107, .bool (x14.2.2 == x16.2.2)), (108, .bool (x14.2.2 == x16.2.2)), (109, .bool (x14.2.2 == x16.2.2))] _ _ _ (by kernel_rfl) ?_
               refine x_split 109 (x14.2.2 == x16.2.2) rfl (fun hb => ?_) (fun hb => ?_)
               · replace h := ite_t hb h
                 refine x_pure 2 [(110, .slice a0_19 (x18.1).length c0_19), (111, .slice a0_22 (x21.1).length c0_22)] _ _ _ (by kernel_rfl) ?_
                 obtain ⟨x30, hx, h⟩ := bind_some h
                 have hpk : MS w29 ([] ++ [[b2], M]) := hms.pick [some 0, some 1] _ rfl
                 have hsb0 : ∀ x ∈ fl ([] ++ [[b2], M]), x ∈ fl [[b2], M] := pick_sub [some 0, some 1] _ rfl
                 have hsb : ∀ x ∈ fl ([] ++ [(fl [[b2], M])]), x ∈ fl [[b2], M] := fun x hx => hsb0 x (fl_unfold x hx)
                 have hcall := gen_Ints_w a0_19 c0_19 x18.1 a0_22 c0_22 x21.1 _ w29 (fl [[b2], M]) (MS.fold (P := []) hpk) (hf19_1.sub hsb) (hf22_1.sub hsb) hx
                 refine x_call 24 #[] #[] [.slice a0_19 (x18.1).length c0_19, .slice a0_22 (x21.1).length c0_22] _ rfl rfl rfl rfl hcall ?_
                 rintro v w31 ⟨rfl, he31⟩
                 clear hcall hx
                 refine ⟨.inr he31, ?_⟩
                 have hst := Stp.ext (ls := [[b2], M]) he31
                 replace hs_p0_2 := hs_p0_2.step hst
                 replace hb2 := he31.box hb2 nn
                 replace hf5_1 := hf5_1.step hst
                 replace hf8_1 := hf8_1.step hst
                 replace hf19_1 := hf19_1.step hst
                 replace hf22_1 := hf22_1.step hst
                 replace hms := hms.ev he31
                 replace hev := hev.ext he31
                 clear hpk hsb hsb0
                 refine x_pure 2 [(113, .bool x30), (114, .bool x30)] _ _ _ (by kernel_rfl) ?_
                 refine x_split 114 x30 rfl (fun hb => ?_) (fun hb => ?_)
                 · replace h := ite_t hb h
                   refine x_pure 5 [(115, Vi x18.2), (116, Vi x21.2), (117, .bool (x18.2 == x21.2)), (118, .bool (x18.2 == x21.2)), (4, .bool (x18.2 == x21.2))] _ _ _ (by kernel_rfl) ?_
                   refine x_ek ?_
                   refine c_norm [(4, .bool (x18.2 == x21.2))] ⟨rfl, trivial⟩ (fun J => ?_)
                   refine c_ret ?_
                   refine r_ret (r_vals [.bool (x18.2 == x21.2)] ⟨rfl, trivial⟩ ?_)
                   have hx := some_inj h
                   subst hx
                   have hmr : MS w31 [M] := hms.pick [some 1] _ rfl
                   have hsu : ∀ x ∈ fl [M], x ∈ fl [[b2], M] := pick_sub [some 1] _ rfl
                   exact ⟨rfl, hev⟩
                 replace h := ite_f hb h
                 refine x_pure 5 [(115, undef), (116, undef), (117, undef), (118, .bool false), (4, .bool false)] _ _ _ (by kernel_rfl) ?_
                 refine x_ek ?_
                 refine c_norm [(4, .bool false)] ⟨rfl, trivial⟩ (fun J => ?_)
                 refine c_ret ?_
                 refine r_ret (r_vals [.bool false] ⟨rfl, trivial⟩ ?_)
                 have hx := some_inj h
                 subst hx
                 have hmr : MS w31 [M] := hms.pick [some 1] _ rfl
                 have hsu : ∀ x ∈ fl [M], x ∈ fl [[b2], M] := pick_sub [some 1] _ rfl
                 exact ⟨rfl, hev⟩
               replace h := ite_f hb h
               refine x_pure 10 [(110, undef), (111, undef), (112, undef), (113, .bool false), (114, .bool false), (115, undef), (116, undef), (117, undef), (118, .bool false), (4, .bool false)] _ _ _ (by kernel_rfl) ?_
               refine x_ek ?_
               refine c_norm [(4, .bool false)] ⟨rfl, trivial⟩ (fun J => ?_)
               refine c_ret ?_
               refine r_ret (r_vals [.bool false] ⟨rfl, trivial⟩ ?_)
               have hx := some_inj h
               subst hx
               have hmr : MS w29 [M] := hms.pick [some 1] _ rfl
               have hsu : ∀ x ∈ fl [M], x ∈ fl [[b2], M] := pick_sub [some 1] _ rfl
               exact ⟨rfl, hev⟩
             replace h := ite_f hb h
             refine x_pure 15 [(105, undef), (106, undef), (107, undef), (108, .bool false), (109, .bool false), (110, undef), (111, undef), (112, undef), (113, .bool false), (114, .bool false), (115, undef), (116, undef), (117, undef), (118, .bool false), (4, .bool false)] _ _ _ (by kernel_rfl) ?_
             refine x_ek ?_
             refine c_norm [(4, .bool false)] ⟨rfl, trivial⟩ (fun J => ?_)
             refine c_ret ?_
             refine r_ret (r_vals [.bool false] ⟨rfl, trivial⟩ ?_)
             have hx := some_inj h
             subst hx
             have hmr : MS w29 [M] := hms.pick [some 1] _ rfl
             have hsu : ∀ x ∈ fl [M], x ∈ fl [[b2], M] := pick_sub [some 1] _ rfl
             exact ⟨rfl, hev⟩
           replace h := ite_f hb h
           refine x_pure 20 [(100, undef), (101, undef), (102, undef), (103, .bool false), (104, .bool false), (105, undef), (106, undef), (107, undef), (108, .bool false), (109, .bool false), (110, undef), (111, undef), (112, undef), (113, .bool false), (114, .bool false), (115, undef), (116, undef), (117, undef), (118, .bool false), (4, .bool false)] _ _ _ (by kernel_rfl) ?_
           refine x_ek ?_
           refine c_norm [(4, .bool false)] ⟨rfl, trivial⟩ (fun J => ?_)
           refine c_ret ?_
           refine r_ret (r_vals [.bool false] ⟨rfl, trivial⟩ ?_)
           have hx := some_inj h
           subst hx
           have hmr : MS w29 [M] := hms.pick [some 1] _ rfl
           have hsu : ∀ x ∈ fl [M], x ∈ fl [[b2], M] := pick_sub [some 1] _ rfl
           exact ⟨rfl, hev⟩
         replace h := ite_f hb h
         refine x_pure 25 [(95, undef), (96, undef), (97, undef), (98, .bool false), (99, .bool false), (100, undef), (101, undef), (102, undef), (103, .bool false), (104, .bool false), (105, undef), (106, undef), (107, undef), (108, .bool false), (109, .bool false), (110, undef), (111, undef), (112, undef), (113, .bool false), (114, .bool false), (115, undef), (116, undef), (117, undef), (118, .bool false), (4, .bool false)] _ _ _ (by kernel_rfl) ?_
         refine x_ek ?_
         refine c_norm [(4, .bool false)] ⟨rfl, trivial⟩ (fun J => ?_)
         refine c_ret ?_
         refine r_ret (r_vals [.bool false] ⟨rfl, trivial⟩ ?_)
         have hx := some_inj h
         subst hx
         have hmr : MS w29 [M] := hms.pick [some 1] _ rfl
         have hsu : ∀ x ∈ fl [M], x ∈ fl [[b2], M] := pick_sub [some 1] _ rfl
         exact ⟨rfl, hev⟩
       replace h := ite_f hb h
       refine x_pure 30 [(90, undef), (91, undef), (92, undef), (93, .bool false), (94, .bool false), (95, undef), (96, undef), (97, undef), (98, .bool false), (99, .bool false), (100, undef), (101, undef), (102, undef), (103, .bool false), (104, .bool false), (105, undef), (106, undef), (107, undef), (108, .bool false), (109, .bool false), (110, undef), (111, undef), (112, undef), (113, .bool false), (114, .bool false), (115, undef), (116, undef), (117, undef), (118, .bool false), (4, .bool false)] _ _ _ (by kernel_rfl) ?_
       refine x_ek ?_
       refine c_norm [(4, .bool false)] ⟨rfl, trivial⟩ (fun J => ?_)
       refine c_ret ?_
       refine r_ret (r_vals [.bool false] ⟨rfl, trivial⟩ ?_)
       have hx := some_inj h
       subst hx
       have hmr : MS w29 [M] := hms.pick [some 1] _ rfl
       have hsu : ∀ x ∈ fl [M], x ∈ fl [[b2], M] := pick_sub [some 1] _ rfl
       exact ⟨rfl, hev⟩
     replace h := ite_f hb h
     refine x_pure 35 [(85, undef), (86, undef), (87, undef), (88, .bool false), (89, .bool false), (90, undef), (91, undef), (92, undef), (93, .bool false), (94, .bool false), (95, undef), (96, undef), (97, undef), (98, .bool false), (99, .bool false), (100, undef), (101, undef), (102, undef), (103, .bool false), (104, .bool false), (105, undef), (106, undef), (107, undef), (108, .bool false), (109, .bool false), (110, undef), (111, undef), (112, undef), (113, .bool false), (114, .bool false), (115, undef), (116, undef), (117, undef), (118, .bool false), (4, .bool false)] _ _ _ (by kernel_rfl) ?_
     refine x_ek ?_
     refine c_norm [(4, .bool false)] ⟨rfl, trivial⟩ (fun J => ?_)
     refine c_ret ?_
     refine r_ret (r_vals [.bool false] ⟨rfl, trivial⟩ ?_)
     have hx := some_inj h
     subst hx
     have hmr : MS w29 [M] := hms.pick [some 1] _ rfl
     have hsu : ∀ x ∈ fl [M], x ∈ fl [[b2], M] := pick_sub [some 1] _ rfl
     exact ⟨rfl, hev⟩
   replace h := ite_f hb h
   refine x_pure 40 [(80, undef), (81, undef), (82, undef), (83, .bool false), (84, .bool false), (85, undef), (86, undef), (87, undef), (88, .bool false), (89, .bool false), (90, undef), (91, undef), (92, undef), (93, .bool false), (94, .bool false), (95, undef), (96, undef), (97, undef), (98, .bool false), (99, .bool false), (100, undef), (101, undef), (102, undef), (103, .bool false), (104, .bool false), (105, undef), (106, undef), (107, undef), (108, .bool false), (109, .bool false), (110, undef), (111, undef), (112, undef), (113, .bool false), (114, .bool false), (115, undef), (116, undef), (117, undef), (118, .bool false), (4, .bool false)] _ _ _ (by kernel_rfl) ?_
   refine x_ek ?_
   refine c_norm [(4, .bool false)] ⟨rfl, trivial⟩ (fun J => ?_)
   refine c_ret ?_
   refine r_ret (r_vals [.bool false] ⟨rfl, trivial⟩ ?_)
   have hx := some_inj h
   subst hx
   have hmr : MS w29 [M] := hms.pick [some 1] _ rfl
   have hsu : ∀ x ∈ fl [M], x ∈ fl [[b2], M] := pick_sub [some 1] _ rfl
   exact ⟨rfl, hev⟩
 replace h := ite_f hb h
 refine x_pure 45 [(75, undef), (76, undef), (77, undef), (78, .bool false), (79, .bool false), (80, undef), (81, undef), (82, undef), (83, .bool false), (84, .bool false), (85, undef), (86, undef), (87, undef), (88, .bool false), (89, .bool false), (90, undef), (91, undef), (92, undef), (93, .bool false), (94, .bool false), (95, undef), (96, undef), (97, undef), (98, .bool false), (99, .bool false), (100, undef), (101, undef), (102, undef), (103, .bool false), (104, .bool false), (105, undef), (106, undef), (107, undef), (108, .bool false), (109, .bool false), (110, undef), (111, undef), (112, undef), (113, .bool false), (114, .bool false), (115, undef), (116, undef), (117, undef), (118, .bool false), (4, .bool false)] _ _ _ (by kernel_rfl) ?_
 refine x_ek ?_
 refine c_norm [(4, .bool false)] ⟨rfl, trivial⟩ (fun J => ?_)
 refine c_ret ?_
 refine r_ret (r_vals [.bool false] ⟨rfl, trivial⟩ ?_)
 have hx := some_inj h
 subst hx
 have hmr : MS w27 [M] := hms.pick [some 1] _ rfl
 have hsu : ∀ x ∈ fl [M], x ∈ fl [[b2], M] := pick_sub [some 1] _ rfl
 exact ⟨rfl, hev⟩
end Go.Proofs.Ytdjadgodphfihaa
