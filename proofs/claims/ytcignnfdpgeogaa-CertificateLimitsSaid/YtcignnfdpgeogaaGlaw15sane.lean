
/- Walks, printed by program: each function returns what the partial function of the same name returns. Conditions: those of each theorem. -/
import Derived.Test.YtcignnfdpgeogaaGT
import Derived.Test.YtcignnfdpgeogaaGcertificate
import Derived.Test.YtcignnfdpgeogaaGgen
import Derived.Test.YtcignnfdpgeogaaGlaw15four
import Derived.Test.YtcignnfdpgeogaaGlaw15proof
set_option linter.unusedVariables false
set_option linter.unusedSimpArgs false
set_option maxRecDepth 4000
namespace Go.Proofs.Ytcignnfdpgeogaa
open Go Go.V Go.Proofs
def law15_sane : Option Bool :=
((law15_four).bind fun x1 =>
((certificate_Make x1.1 x1.2).bind fun x4 =>
((law15_proof 1 ([1]) ([0])).bind fun x15 =>
((certificate_Encode x15.1.1 x15.1.2 x15.2).bind fun x19 =>
(if (x4.2 == 0) = true then
(if (x4.1.1.1 == 2) = true then
((law15_four).bind fun x22 =>
((law15_proof 2 ([1, 2, 0, 1]) ([2, 0, 3, 1])).bind fun x29 =>
((certificate_Check x22.1 x22.2 x29.1.1 x29.1.2 x29.2).bind fun x33 =>
(if (x33 == 0) = true then
((law15_four).bind fun x35 =>
((law15_proof 2 ([1, 2, 0, 1]) ([2, 0])).bind fun x42 =>
((certificate_Check x35.1 x35.2 x42.1.1 x42.1.2 x42.2).bind fun x46 =>
(if (x46 == 17) = true then
((law15_four).bind fun x48 =>
((law15_proof 2 ([1, 1, 0, 1]) ([2, 0, 3, 1])).bind fun x55 =>
((certificate_Check x48.1 x48.2 x55.1.1 x55.1.2 x55.2).bind fun x59 =>
(if (x59 == 12) = true then
((law15_four).bind fun x61 =>
((law15_proof 2 ([1, 3, 0, 1]) ([2, 0, 3, 1])).bind fun x68 =>
((certificate_Check x61.1 x61.2 x68.1.1 x68.1.2 x68.2).bind fun x72 =>
(if (x72 == 0) = true then
(if (x19.2 == 0) = true then
((gen_Bytes x19.1 ([1, 1, 0, 1, 1, 0])).bind fun x76 =>
some x76)
else
some false)
else
some false))))
else
some false))))
else
some false))))
else
some false))))
else
some false)
else
some false)))))

theorem law15_sane_w (r : Bool) (w : World) (h : law15_sane = some r) : CallVC Try.prog 17 [] w fun v w' => v = .bool r ∧ Ev [] w w' := by
 refine calls_vc hmx Try.func17 (by kernel_rfl) rfl (rs := [.tmp 0]) rfl (by kernel_rfl) (args := []) rfl ?_
 have hev : Ev [] w w := Ev.refl _ _
 have hms : MS w [[]] := ⟨List.pairwise_singleton _ _, fun l hl b hb => by simp only [List.mem_singleton] at hl; subst hl; cases hb⟩
 have hfr : FR w.heap.size [] := FR.nil _
 refine c_sp ?_
 refine x_u 1 [(0, .bool false)] ?_
 refine x_ek ?_
 refine c_sp ?_
 obtain ⟨x1, hx, h⟩ := bind_some h
 have hpk : MS w ([] ++ [[]]) := hms.pick [some 0] _ rfl
 have hsb0 : ∀ x ∈ fl ([] ++ [[]]), x ∈ fl [[]] := pick_sub [some 0] _ rfl
 have hsb : ∀ x ∈ fl ([] ++ [(fl [[]])]), x ∈ fl [[]] := fun x hx => hsb0 x (fl_unfold x hx)
 have hcall := law15_four_w _ w (fl [[]]) (MS.fold (P := []) hpk)  hx
 refine x_call 45 #[] #[] [] _ rfl rfl rfl rfl hcall ?_
 rintro v w2 ⟨a0_2, c0_2, rfl, he2, hf2_1⟩
 clear hcall hx
 refine inl1 ?_
 replace hms := hms.ev he2
 replace hev := hev.ext he2
 have hsp : ∀ x ∈ fl [[]], x ∈ fl ([] ++ [(fl [[]])]) := fun x hx => fl_fold (P := []) x (pick_sup [some 0] [[]] rfl rfl x hx)
 replace hf2_1 := hf2_1.sub hsp
 clear hpk hsb hsb0
 obtain ⟨x4, hx, h⟩ := bind_some h
 have hpk : MS w2 ([] ++ [[]]) := hms.pick [some 0] _ rfl
 have hsb0 : ∀ x ∈ fl ([] ++ [[]]), x ∈ fl [[]] := pick_sub [some 0] _ rfl
 have hsb : ∀ x ∈ fl ([] ++ [(fl [[]])]), x ∈ fl [[]] := fun x hx => hsb0 x (fl_unfold x hx)
 have hcall := certificate_Make_w a0_2 c0_2 x1.1 x1.2 _ w2 (fl [[]]) (MS.fold (P := []) hpk) (hf2_1.sub hsb) hx
 refine x_call 10 #[] #[] [.agg #[Vl a0_2 x1.1 c0_2, Vi x1.2]] _ rfl rfl rfl rfl hcall ?_
 rintro v w5 ⟨a0_5, c0_5, a2_5, c2_5, rfl, he5, hmn5, hfn5, hf5_1, hf5_2⟩
 clear hcall hx
 refine inl1 ?_
 have hpk2 : MS w2 ([] ++ [[]]) := hms.pick [some 0] _ rfl
 have hsb2 : ∀ x ∈ fl ([] ++ [[]]), x ∈ fl [[]] := pick_sub [some 0] _ rfl
 have hst0 := Stp.call (LS := [[]]) (res := [blk a0_5, blk a2_5]) (par := []) (R := [[]]) he5 (fun b hb => hsb2 b (fl_left' (P := []) b hb)) hfn5 (NP.init _ _) (fun x hx => hsb2 x (fl_right' (P := []) x hx))
 have hsn : ∀ x ∈ fl [blk a0_5, blk a2_5, []], x ∈ fl ([blk a0_5, blk a2_5] ++ ([] ++ [[]])) := pick_sub [some 0, some 1, some 2] _ rfl
 have hst := hst0.res hsn
 replace hf2_1 := hf2_1.step hst
 replace hms : MS w5 [blk a0_5, blk a2_5, []] := (MS.call (P := []) (R := [[]]) (res := [blk a0_5, blk a2_5]) (par := []) hpk2 he5 hmn5 hfn5 (NP.init _ _)).pick [some 0, some 1, some 2] _ rfl
 have hfr2 : FR w.heap.size [blk a0_5, blk a2_5] := (FR.cons (fun b hb => Nat.le_trans hev.size (hfn5.at 0 rfl b hb)) (FR.cons (fun b hb => Nat.le_trans hev.size (hfn5.at 1 rfl b hb)) (FR.nil _)))
 replace hev := hev.ext he5
 replace hfr := hfr2
 clear hfr2
 replace hf5_1 := OwnS.plain (M' := fl [blk a0_5, blk a2_5, []]) (plain_int _) hf5_1
 replace hf5_2 := OwnS.plain (M' := fl [blk a0_5, blk a2_5, []]) (plain_int _) hf5_2
 clear hpk hsb hsb0 hpk2 hsb2 hst0 hsn hst
 have hpk : MS w5 [blk a2_5, []] := hms.pick [some 1, some 2] _ rfl
 have hsu : ∀ x ∈ fl [blk a2_5, []], x ∈ fl [blk a0_5, blk a2_5, []] := pick_sub [some 1, some 2] _ rfl
 replace hf2_1 := hf2_1.sub hsu
 replace hf5_1 := hf5_1.ro hsu (pick_out hms 0 rfl [some 1, some 2] [blk a2_5, []] rfl rfl)
 replace hf5_2 := hf5_2.sub hsu
 replace hms := hpk
 replace hfr : FR w.heap.size [blk a2_5] := hfr.pick [some 1] _ rfl
 clear hpk hsu
 have hpk : MS w5 [[]] := hms.pick [some 1] _ rfl
 have hsu : ∀ x ∈ fl [[]], x ∈ fl [blk a2_5, []] := pick_sub [some 1] _ rfl
 replace hf2_1 := hf2_1.sub hsu
 replace hf5_1 := hf5_1.sub hsu
 replace hf5_2 := hf5_2.ro hsu (pick_out hms 0 rfl [some 1] [[]] rfl rfl)
 replace hms := hpk
 replace hfr : FR w.heap.size [] := hfr.pick [] _ rfl
 clear hpk hsu
 refine x_u 3 [(5, .tuple #[.agg #[Vi x4.1.1.1, Vl a0_5 x4.1.1.2 c0_5, Vl a2_5 x4.1.2 c2_5], Vi x4.2]), (8, .agg #[Vi x4.1.1.1, Vl a0_5 x4.1.1.2 c0_5, Vl a2_5 x4.1.2 c2_5]), (9, Vi x4.2)] ?_
 refine x_alloc (z := .agg #[Vi 0, .slice none 0 0, .slice none 0 0]) rfl rfl (by kernel_rfl) (fun b8 w8 hq8 hb8 he8 hz8 => ?_)
 replace hb8 : w8.heap[b8]? = some (.cells #[Vi 0, .slice none 0 0, .slice none 0 0] 29 (0, 0)) := hb8
 refine inl1 ?_
 have hst := Stp.box (ls := [[]]) he8 hq8
 replace hf2_1 := hf2_1.step hst
 replace hf5_1 := hf5_1.step hst
 replace hf5_2 := hf5_2.step hst
 replace hms := hms.box he8 hq8 hb8
 replace hfr := hfr.box hev.size hq8
 replace hev := hev.ext he8
 obtain ⟨w10, hr10, hb10, he10⟩ := store_boxagg 0 [Vi x4.1.1.1, Vl a0_5 x4.1.1.2 c0_5, Vl a2_5 x4.1.2 c2_5] #[Vi x4.1.1.1, Vl a0_5 x4.1.1.2 c0_5, Vl a2_5 x4.1.2 c2_5] tagg29 hb8 rfl rfl rfl
 refine x_store w10 (xv := Vp b8 0) (yv := .agg #[Vi x4.1.1.1, Vl a0_5 x4.1.1.2 c0_5, Vl a2_5 x4.1.2 c2_5]) rfl rfl rfl rfl hr10 ?_
 refine inl1 ?_
 have hst := Stp.ev' (ls := [[b8], []]) he10 (mem_flat 0 rfl)
 replace hf2_1 := hf2_1.step hst
 replace hf5_1 := hf5_1.step hst
 replace hf5_2 := hf5_2.step hst
 replace hms := hms.ev he10
 replace hev := hev.then he10 (fun b hb => .inr (hfr.at 0 rfl b hb))
 replace hb8 := hb10
 refine x_u 1 [(2, Vi x4.2)] ?_
 refine x_ek ?_
 refine c_sp ?_
 refine x_buildSlice (vs := [(0, Vi 1)]) #[Vi 1] 3 rfl rfl rfl (by kernel_rfl) (fun b11 w11 hq11 hb11 he11 hz11 => ?_)
 refine inl1 ?_
 have hms0 := hms
 have hst := Stp.ext (ls := [[b8], []]) he11
 replace hf5_1 := hf5_1.step hst
 replace hf5_2 := hf5_2.step hst
 replace hb8 := he11.box hb8 nn
 replace hms := hms.ev he11
 replace hev := hev.ext he11
 have hs11 : SlR (eInt .i64) w11 (fl [[b8], []]) (Ad b11 0) 1 ([1]) := ro_of_box hms0 hq11 hb11 rfl rfl (cells_at (cs := [Vi 1]) (CellsOf.cons (c := [Vi 1]) rfl CellsOf.nil))
 clear hb11 hms0
 refine x_buildSlice (vs := [(0, Vi 0)]) #[Vi 0] 3 rfl rfl rfl (by kernel_rfl) (fun b13 w13 hq13 hb13 he13 hz13 => ?_)
 refine inl1 ?_
 have hms0 := hms
 have hst := Stp.ext (ls := [[b8], []]) he13
 replace hf5_1 := hf5_1.step hst
 replace hf5_2 := hf5_2.step hst
 replace hb8 := he13.box hb8 nn
 replace hs11 := hs11.step hst
 replace hms := hms.ev he13
 replace hev := hev.ext he13
 have hs13 : SlR (eInt .i64) w13 (fl [[b8], []]) (Ad b13 0) 1 ([0]) := ro_of_box hms0 hq13 hb13 rfl rfl (cells_at (cs := [Vi 0]) (CellsOf.cons (c := [Vi 0]) rfl CellsOf.nil))
 clear hb13 hms0
 obtain ⟨x15, hx, h⟩ := bind_some h
 have hpk : MS w13 ([] ++ [[b8], []]) := hms.pick [some 0, some 1] _ rfl
 have hsb0 : ∀ x ∈ fl ([] ++ [[b8], []]), x ∈ fl [[b8], []] := pick_sub [some 0, some 1] _ rfl
 have hsb : ∀ x ∈ fl ([] ++ [(fl [[b8], []])]), x ∈ fl [[b8], []] := fun x hx => hsb0 x (fl_unfold x hx)
 have hcall := law15_proof_w 1 (Ad b11 0) 1 ([1]) (Ad b13 0) 1 ([0]) _ w13 (fl [[b8], []]) (MS.fold (P := []) hpk) (hs11.sub hsb) (hs13.sub hsb) hx
 refine x_call 20 #[] #[] [Vi 1, .slice (Ad b11 0) ([1]).length 1, .slice (Ad b13 0) ([0]).length 1] _ rfl rfl rfl rfl hcall ?_
 rintro v w16 ⟨a0_16, c0_16, a2_16, c2_16, rfl, he16, hf16_1, hf16_2⟩
 clear hcall hx
 refine inl1 ?_
 have hst := Stp.ext (ls := [[b8], []]) he16
 replace hf5_1 := hf5_1.step hst
 replace hf5_2 := hf5_2.step hst
 replace hb8 := he16.box hb8 nn
 replace hs11 := hs11.step hst
 replace hs13 := hs13.step hst
 replace hms := hms.ev he16
 replace hev := hev.ext he16
 have hsp : ∀ x ∈ fl [[b8], []], x ∈ fl ([] ++ [(fl [[b8], []])]) := fun x hx => fl_fold (P := []) x (pick_sup [some 0, some 1] [[b8], []] rfl rfl x hx)
 replace hf16_1 := hf16_1.sub hsp
 replace hf16_2 := hf16_2.sub hsp
 clear hpk hsb hsb0
 obtain ⟨x19, hx, h⟩ := bind_some h
 have hpk : MS w16 ([] ++ [[b8], []]) := hms.pick [some 0, some 1] _ rfl
 have hsb0 : ∀ x ∈ fl ([] ++ [[b8], []]), x ∈ fl [[b8], []] := pick_sub [some 0, some 1] _ rfl
 have hsb : ∀ x ∈ fl ([] ++ [(fl [[b8], []])]), x ∈ fl [[b8], []] := fun x hx => hsb0 x (fl_unfold x hx)
 have hcall := certificate_Encode_w x15.1.1 a0_16 c0_16 x15.1.2 a2_16 c2_16 x15.2 _ w16 (fl [[b8], []]) (MS.fold (P := []) hpk) (hf16_1.sub hsb) (hf16_2.sub hsb) hx
 refine x_call 21 #[] #[] [.agg #[Vi x15.1.1, Vl a0_16 x15.1.2 c0_16, Vl a2_16 x15.2 c2_16]] _ rfl rfl rfl rfl hcall ?_
 rintro v w20 ⟨a0_20, c0_20, rfl, he20, hmn20, hfn20, hf20_1⟩
 clear hcall hx
 refine inl1 ?_
 have hpk2 : MS w16 ([] ++ [[b8], []]) := hms.pick [some 0, some 1] _ rfl
 have hsb2 : ∀ x ∈ fl ([] ++ [[b8], []]), x ∈ fl [[b8], []] := pick_sub [some 0, some 1] _ rfl
 have hst0 := Stp.call (LS := [[b8], []]) (res := [blk a0_20]) (par := []) (R := [[b8], []]) he20 (fun b hb => hsb2 b (fl_left' (P := []) b hb)) hfn20 (NP.init _ _) (fun x hx => hsb2 x (fl_right' (P := []) x hx))
 have hsn : ∀ x ∈ fl [blk a0_20, [b8], []], x ∈ fl ([blk a0_20] ++ ([] ++ [[b8], []])) := pick_sub [some 0, some 1, some 2] _ rfl
 have hst := hst0.res hsn
 replace hf5_1 := hf5_1.step hst
 replace hf5_2 := hf5_2.step hst
 replace hb8 := he20.box hb8 ((MS.outs (P := []) hpk2 0 rfl) _ mem1)
 replace hs11 := hs11.step hst
 replace hs13 := hs13.step hst
 replace hf16_1 := hf16_1.step hst
 replace hf16_2 := hf16_2.step hst
 replace hms : MS w20 [blk a0_20, [b8], []] := (MS.call (P := []) (R := [[b8], []]) (res := [blk a0_20]) (par := []) hpk2 he20 hmn20 hfn20 (NP.init _ _)).pick [some 0, some 1, some 2] _ rfl
 have hfr2 : FR w.heap.size [blk a0_20, [b8]] := (FR.cons (fun b hb => Nat.le_trans hev.size (hfn20.at 0 rfl b hb)) (FR.cons (hfr.at 0 rfl) (FR.nil _)))
 replace hev := hev.ext he20
 replace hfr := hfr2
 clear hfr2
 replace hf20_1 := OwnS.plain (M' := fl [blk a0_20, [b8], []]) (plain_int _) hf20_1
 clear hpk hsb hsb0 hpk2 hsb2 hst0 hsn hst
 have hpk : MS w20 [[b8], []] := hms.pick [some 1, some 2] _ rfl
 have hsu : ∀ x ∈ fl [[b8], []], x ∈ fl [blk a0_20, [b8], []] := pick_sub [some 1, some 2] _ rfl
 replace hf5_1 := hf5_1.sub hsu
 replace hf5_2 := hf5_2.sub hsu
 replace hs11 := hs11.sub hsu
 replace hs13 := hs13.sub hsu
 replace hf16_1 := hf16_1.sub hsu
 replace hf16_2 := hf16_2.sub hsu
 replace hf20_1 := hf20_1.ro hsu (pick_out hms 0 rfl [some 1, some 2] [[b8], []] rfl rfl)
 replace hms := hpk
 replace hfr : FR w.heap.size [[b8]] := hfr.pick [some 1] _ rfl
 clear hpk hsu
 refine x_u 5 [(10, .tuple #[Vl a0_20 x19.1 c0_20, Vi x19.2]), (15, Vl a0_20 x19.1 c0_20), (16, Vi x19.2), (3, Vl a0_20 x19.1 c0_20), (4, Vi x19.2)] ?_
 refine x_ek ?_
 refine c_norm [(1, Vp b8 0), (2, Vi x4.2), (3, Vl a0_20 x19.1 c0_20), (4, Vi x19.2)] ⟨rfl, rfl, rfl, rfl, trivial⟩ (fun J => ?_)
 refine c_sp ?_
 refine x_u 3 [(17, Vi x4.2), (18, .bool (x4.2 == 0)), (19, .bool (x4.2 == 0))] ?_
 refine x_if 19 (x4.2 == 0) rfl h (fun h => ?_) (fun h => ?_)
 · refine x_fieldAddr (xv := Vp b8 0) (Vp b8 0) rfl rfl rfl (reads_field tfld29_0 _ _) ?_
   refine x_fieldAddr (xv := Vp b8 0) (Vp b8 0) rfl rfl rfl (reads_field tfld27_0 _ _) ?_
   refine x_load (xv := Vp b8 0) (Vi x4.1.1.1) rfl rfl rfl (reads_box tcell3 hb8 nn 0 _ rfl) ?_
   refine x_u 3 [(23, .bool (x4.1.1.1 == 2)), (24, .bool (x4.1.1.1 == 2)), (25, .bool (x4.1.1.1 == 2))] ?_
   refine x_if 25 (x4.1.1.1 == 2) rfl h (fun h => ?_) (fun h => ?_)
   · obtain ⟨x22, hx, h⟩ := bind_some h
     have hpk : MS w20 ([] ++ [[b8], []]) := hms.pick [some 0, some 1] _ rfl
     have hsb0 : ∀ x ∈ fl ([] ++ [[b8], []]), x ∈ fl [[b8], []] := pick_sub [some 0, some 1] _ rfl
     have hsb : ∀ x ∈ fl ([] ++ [(fl [[b8], []])]), x ∈ fl [[b8], []] := fun x hx => hsb0 x (fl_unfold x hx)
     have hcall := law15_four_w _ w20 (fl [[b8], []]) (MS.fold (P := []) hpk)  hx
     refine x_call 45 #[] #[] [] _ rfl rfl rfl rfl hcall ?_
     rintro v w23 ⟨a0_23, c0_23, rfl, he23, hf23_1⟩
     clear hcall hx
     refine inl1 ?_
     have hst := Stp.ext (ls := [[b8], []]) he23
     replace hf5_1 := hf5_1.step hst
     replace hf5_2 := hf5_2.step hst
     replace hb8 := he23.box hb8 nn
     replace hf20_1 := hf20_1.step hst
     replace hms := hms.ev he23
     replace hev := hev.ext he23
     have hsp : ∀ x ∈ fl [[b8], []], x ∈ fl ([] ++ [(fl [[b8], []])]) := fun x hx => fl_fold (P := []) x (pick_sup [some 0, some 1] [[b8], []] rfl rfl x hx)
     replace hf23_1 := hf23_1.sub hsp
     clear hpk hsb hsb0
     refine x_buildSlice (vs := [(0, Vi 1), (1, Vi 2), (2, Vi 0), (3, Vi 1)]) #[Vi 1, Vi 2, Vi 0, Vi 1] 3 rfl rfl rfl (by kernel_rfl) (fun b25 w25 hq25 hb25 he25 hz25 => ?_)
     refine inl1 ?_
     have hms0 := hms
     have hst := Stp.ext (ls := [[b8], []]) he25
     replace hf5_1 := hf5_1.step hst
     replace hf5_2 := hf5_2.step hst
     replace hb8 := he25.box hb8 nn
     replace hf20_1 := hf20_1.step hst
     replace hf23_1 := hf23_1.step hst
     replace hms := hms.ev he25
     replace hev := hev.ext he25
     have hs25 : SlR (eInt .i64) w25 (fl [[b8], []]) (Ad b25 0) 4 ([1, 2, 0, 1]) := ro_of_box hms0 hq25 hb25 rfl rfl (cells_at (cs := [Vi 1, Vi 2, Vi 0, Vi 1]) (CellsOf.cons (c := [Vi 1]) rfl (CellsOf.cons (c := [Vi 2]) rfl (CellsOf.cons (c := [Vi 0]) rfl (CellsOf.cons (c := [Vi 1]) rfl CellsOf.nil)))))
     clear hb25 hms0
     refine x_buildSlice (vs := [(0, Vi 2), (1, Vi 0), (2, Vi 3), (3, Vi 1)]) #[Vi 2, Vi 0, Vi 3, Vi 1] 3 rfl rfl rfl (by kernel_rfl) (fun b27 w27 hq27 hb27 he27 hz27 => ?_)
     refine inl1 ?_
     have hms0 := hms
     have hst := Stp.ext (ls := [[b8], []]) he27
     replace hf5_1 := hf5_1.step hst
     replace hf5_2 := hf5_2.step hst
     replace hb8 := he27.box hb8 nn
     replace hf20_1 := hf20_1.step hst
     replace hf23_1 := hf23_1.step hst
     replace hs25 := hs25.step hst
     replace hms := hms.ev he27
     replace hev := hev.ext he27
     have hs27 : SlR (eInt .i64) w27 (fl [[b8], []]) (Ad b27 0) 4 ([2, 0, 3, 1]) := ro_of_box hms0 hq27 hb27 rfl rfl (cells_at (cs := [Vi 2, Vi 0, Vi 3, Vi 1]) (CellsOf.cons (c := [Vi 2]) rfl (CellsOf.cons (c := [Vi 0]) rfl (CellsOf.cons (c := [Vi 3]) rfl (CellsOf.cons (c := [Vi 1]) rfl CellsOf.nil)))))
     clear hb27 hms0
     obtain ⟨x29, hx, h⟩ := bind_some h
     have hpk : MS w27 ([] ++ [[b8], []]) := hms.pick [some 0, some 1] _ rfl
     have hsb0 : ∀ x ∈ fl ([] ++ [[b8], []]), x ∈ fl [[b8], []] := pick_sub [some 0, some 1] _ rfl
     have hsb : ∀ x ∈ fl ([] ++ [(fl [[b8], []])]), x ∈ fl [[b8], []] := fun x hx => hsb0 x (fl_unfold x hx)
     have hcall := law15_proof_w 2 (Ad b25 0) 4 ([1, 2, 0, 1]) (Ad b27 0) 4 ([2, 0, 3, 1]) _ w27 (fl [[b8], []]) (MS.fold (P := []) hpk) (hs25.sub hsb) (hs27.sub hsb) hx
     refine x_call 20 #[] #[] [Vi 2, .slice (Ad b25 0) ([1, 2, 0, 1]).length 4, .slice (Ad b27 0) ([2, 0, 3, 1]).length 4] _ rfl rfl rfl rfl hcall ?_
     rintro v w30 ⟨a0_30, c0_30, a2_30, c2_30, rfl, he30, hf30_1, hf30_2⟩
     clear hcall hx
     refine inl1 ?_
     have hst := Stp.ext (ls := [[b8], []]) he30
     replace hf5_1 := hf5_1.step hst
     replace hf5_2 := hf5_2.step hst
     replace hb8 := he30.box hb8 nn
     replace hf20_1 := hf20_1.step hst
     replace hf23_1 := hf23_1.step hst
     replace hs25 := hs25.step hst
     replace hs27 := hs27.step hst
     replace hms := hms.ev he30
     replace hev := hev.ext he30
     have hsp : ∀ x ∈ fl [[b8], []], x ∈ fl ([] ++ [(fl [[b8], []])]) := fun x hx => fl_fold (P := []) x (pick_sup [some 0, some 1] [[b8], []] rfl rfl x hx)
     replace hf30_1 := hf30_1.sub hsp
     replace hf30_2 := hf30_2.sub hsp
     clear hpk hsb hsb0
     obtain ⟨x33, hx, h⟩ := bind_some h
     have hpk : MS w30 ([] ++ [[b8], []]) := hms.pick [some 0, some 1] _ rfl
     have hsb0 : ∀ x ∈ fl ([] ++ [[b8], []]), x ∈ fl [[b8], []] := pick_sub [some 0, some 1] _ rfl
     have hsb : ∀ x ∈ fl ([] ++ [(fl [[b8], []])]), x ∈ fl [[b8], []] := fun x hx => hsb0 x (fl_unfold x hx)
     have hcall := certificate_Check_w a0_23 c0_23 x22.1 x22.2 x29.1.1 a0_30 c0_30 x29.1.2 a2_30 c2_30 x29.2 _ w30 (fl [[b8], []]) (MS.fold (P := []) hpk) (hf23_1.sub hsb) (hf30_1.sub hsb) (hf30_2.sub hsb) hx
     refine x_call 14 #[] #[] [.agg #[Vl a0_23 x22.1 c0_23, Vi x22.2], .agg #[Vi x29.1.1, Vl a0_30 x29.1.2 c0_30, Vl a2_30 x29.2 c2_30]] _ rfl rfl rfl rfl hcall ?_
     rintro v w34 ⟨rfl, he34⟩
     clear hcall hx
     refine inl1 ?_
     have hst := Stp.ext (ls := [[b8], []]) he34
     replace hf5_1 := hf5_1.step hst
     replace hf5_2 := hf5_2.step hst
     replace hb8 := he34.box hb8 nn
     replace hf20_1 := hf20_1.step hst
     replace hf23_1 := hf23_1.step hst
     replace hs25 := hs25.step hst
     replace hs27 := hs27.step hst
     replace hf30_1 := hf30_1.step hst
     replace hf30_2 := hf30_2.step hst
     replace hms := hms.ev he34
     replace hev := hev.ext he34
     clear hpk hsb hsb0
     refine x_u 3 [(31, .bool (x33 == 0)), (32, .bool (x33 == 0)), (33, .bool (x33 == 0))] ?_
     refine x_if 33 (x33 == 0) rfl h (fun h => ?_) (fun h => ?_)
     · obtain ⟨x35, hx, h⟩ := bind_some h
       have hpk : MS w34 ([] ++ [[b8], []]) := hms.pick [some 0, some 1] _ rfl
       have hsb0 : ∀ x ∈ fl ([] ++ [[b8], []]), x ∈ fl [[b8], []] := pick_sub [some 0, some 1] _ rfl
       have hsb : ∀ x ∈ fl ([] ++ [(fl [[b8], []])]), x ∈ fl [[b8], []] := fun x hx => hsb0 x (fl_unfold x hx)
       have hcall := law15_four_w _ w34 (fl [[b8], []]) (MS.fold (P := []) hpk)  hx
       refine x_call 45 #[] #[] [] _ rfl rfl rfl rfl hcall ?_
       rintro v w36 ⟨a0_36, c0_36, rfl, he36, hf36_1⟩
       clear hcall hx
       refine inl1 ?_
       have hst := Stp.ext (ls := [[b8], []]) he36
       replace hf5_1 := hf5_1.step hst
       replace hf5_2 := hf5_2.step hst
       replace hb8 := he36.box hb8 nn
       replace hf20_1 := hf20_1.step hst
       replace hf23_1 := hf23_1.step hst
       replace hs25 := hs25.step hst
       replace hs27 := hs27.step hst
       replace hf30_1 := hf30_1.step hst
       replace hf30_2 := hf30_2.step hst
       replace hms := hms.ev he36
       replace hev := hev.ext he36
       have hsp : ∀ x ∈ fl [[b8], []], x ∈ fl ([] ++ [(fl [[b8], []])]) := fun x hx => fl_fold (P := []) x (pick_sup [some 0, some 1] [[b8], []] rfl rfl x hx)
       replace hf36_1 := hf36_1.sub hsp
       clear hpk hsb hsb0
       refine x_buildSlice (vs := [(0, Vi 1), (1, Vi 2), (2, Vi 0), (3, Vi 1)]) #[Vi 1, Vi 2, Vi 0, Vi 1] 3 rfl rfl rfl (by kernel_rfl) (fun b38 w38 hq38 hb38 he38 hz38 => ?_)
       refine inl1 ?_
       have hms0 := hms
       have hst := Stp.ext (ls := [[b8], []]) he38
       replace hf5_1 := hf5_1.step hst
       replace hf5_2 := hf5_2.step hst
       replace hb8 := he38.box hb8 nn
       replace hf20_1 := hf20_1.step hst
       replace hf23_1 := hf23_1.step hst
       replace hs25 := hs25.step hst
       replace hs27 := hs27.step hst
       replace hf30_1 := hf30_1.step hst
       replace hf30_2 := hf30_2.step hst
       replace hf36_1 := hf36_1.step hst
       replace hms := hms.ev he38
       replace hev := hev.ext he38
       have hs38 : SlR (eInt .i64) w38 (fl [[b8], []]) (Ad b38 0) 4 ([1, 2, 0, 1]) := ro_of_box hms0 hq38 hb38 rfl rfl (cells_at (cs := [Vi 1, Vi 2, Vi 0, Vi 1]) (CellsOf.cons (c := [Vi 1]) rfl (CellsOf.cons (c := [Vi 2]) rfl (CellsOf.cons (c := [Vi 0]) rfl (CellsOf.cons (c := [Vi 1]) rfl CellsOf.nil)))))
       clear hb38 hms0
       refine x_buildSlice (vs := [(0, Vi 2), (1, Vi 0)]) #[Vi 2, Vi 0] 3 rfl rfl rfl (by kernel_rfl) (fun b40 w40 hq40 hb40 he40 hz40 => ?_)
       refine inl1 ?_
       have hms0 := hms
       have hst := Stp.ext (ls := [[b8], []]) he40
       replace hf5_1 := hf5_1.step hst
       replace hf5_2 := hf5_2.step hst
       replace hb8 := he40.box hb8 nn
       replace hf20_1 := hf20_1.step hst
       replace hf23_1 := hf23_1.step hst
       replace hs25 := hs25.step hst
       replace hs27 := hs27.step hst
       replace hf30_1 := hf30_1.step hst
       replace hf30_2 := hf30_2.step hst
       replace hf36_1 := hf36_1.step hst
       replace hs38 := hs38.step hst
       replace hms := hms.ev he40
       replace hev := hev.ext he40
       have hs40 : SlR (eInt .i64) w40 (fl [[b8], []]) (Ad b40 0) 2 ([2, 0]) := ro_of_box hms0 hq40 hb40 rfl rfl (cells_at (cs := [Vi 2, Vi 0]) (CellsOf.cons (c := [Vi 2]) rfl (CellsOf.cons (c := [Vi 0]) rfl CellsOf.nil)))
       clear hb40 hms0
       obtain ⟨x42, hx, h⟩ := bind_some h
       have hpk : MS w40 ([] ++ [[b8], []]) := hms.pick [some 0, some 1] _ rfl
       have hsb0 : ∀ x ∈ fl ([] ++ [[b8], []]), x ∈ fl [[b8], []] := pick_sub [some 0, some 1] _ rfl
       have hsb : ∀ x ∈ fl ([] ++ [(fl [[b8], []])]), x ∈ fl [[b8], []] := fun x hx => hsb0 x (fl_unfold x hx)
       have hcall := law15_proof_w 2 (Ad b38 0) 4 ([1, 2, 0, 1]) (Ad b40 0) 2 ([2, 0]) _ w40 (fl [[b8], []]) (MS.fold (P := []) hpk) (hs38.sub hsb) (hs40.sub hsb) hx
       refine x_call 20 #[] #[] [Vi 2, .slice (Ad b38 0) ([1, 2, 0, 1]).length 4, .slice (Ad b40 0) ([2, 0]).length 2] _ rfl rfl rfl rfl hcall ?_
       rintro v w43 ⟨a0_43, c0_43, a2_43, c2_43, rfl, he43, hf43_1, hf43_2⟩
       clear hcall hx
       refine inl1 ?_
       have hst := Stp.ext (ls := [[b8], []]) he43
       replace hf5_1 := hf5_1.step hst
       replace hf5_2 := hf5_2.step hst
       replace hb8 := he43.box hb8 nn
       replace hf20_1 := hf20_1.step hst
       replace hf23_1 := hf23_1.step hst
       replace hs25 := hs25.step hst
       replace hs27 := hs27.step hst
       replace hf30_1 := hf30_1.step hst
       replace hf30_2 := hf30_2.step hst
       replace hf36_1 := hf36_1.step hst
       replace hs38 := hs38.step hst
       replace hs40 := hs40.step hst
       replace hms := hms.ev he43
       replace hev := hev.ext he43
       have hsp : ∀ x ∈ fl [[b8], []], x ∈ fl ([] ++ [(fl [[b8], []])]) := fun x hx => fl_fold (P := []) x (pick_sup [some 0, some 1] [[b8], []] rfl rfl x hx)
       replace hf43_1 := hf43_1.sub hsp
       replace hf43_2 := hf43_2.sub hsp
       clear hpk hsb hsb0
       obtain ⟨x46, hx, h⟩ := bind_some h
       have hpk : MS w43 ([] ++ [[b8], []]) := hms.pick [some 0, some 1] _ rfl
       have hsb0 : ∀ x ∈ fl ([] ++ [[b8], []]), x ∈ fl [[b8], []] := pick_sub [some 0, some 1] _ rfl
       have hsb : ∀ x ∈ fl ([] ++ [(fl [[b8], []])]), x ∈ fl [[b8], []] := fun x hx => hsb0 x (fl_unfold x hx)
       have hcall := certificate_Check_w a0_36 c0_36 x35.1 x35.2 x42.1.1 a0_43 c0_43 x42.1.2 a2_43 c2_43 x42.2 _ w43 (fl [[b8], []]) (MS.fold (P := []) hpk) (hf36_1.sub hsb) (hf43_1.sub hsb) (hf43_2.sub hsb) hx
       refine x_call 14 #[] #[] [.agg #[Vl a0_36 x35.1 c0_36, Vi x35.2], .agg #[Vi x42.1.1, Vl a0_43 x42.1.2 c0_43, Vl a2_43 x42.2 c2_43]] _ rfl rfl rfl rfl hcall ?_
       rintro v w47 ⟨rfl, he47⟩
       clear hcall hx
       refine inl1 ?_
       have hst := Stp.ext (ls := [[b8], []]) he47
       replace hf5_1 := hf5_1.step hst
       replace hf5_2 := hf5_2.step hst
       replace hb8 := he47.box hb8 nn
       replace hf20_1 := hf20_1.step hst
       replace hf23_1 := hf23_1.step hst
       replace hs25 := hs25.step hst
       replace hs27 := hs27.step hst
       replace hf30_1 := hf30_1.step hst
       replace hf30_2 := hf30_2.step hst
       replace hf36_1 := hf36_1.step hst
       replace hs38 := hs38.step hst
       replace hs40 := hs40.step hst
       replace hf43_1 := hf43_1.step hst
       replace hf43_2 := hf43_2.step hst
       replace hms := hms.ev he47
       replace hev := hev.ext he47
       clear hpk hsb hsb0
       refine x_u 3 [(39, .bool (x46 == 17)), (40, .bool (x46 == 17)), (41, .bool (x46 == 17))] ?_
       refine x_if 41 (x46 == 17) rfl h (fun h => ?_) (fun h => ?_)
       · obtain ⟨x48, hx, h⟩ := bind_some h
         have hpk : MS w47 ([] ++ [[b8], []]) := hms.pick [some 0, some 1] _ rfl
         have hsb0 : ∀ x ∈ fl ([] ++ [[b8], []]), x ∈ fl [[b8], []] := pick_sub [some 0, some 1] _ rfl
         have hsb : ∀ x ∈ fl ([] ++ [(fl [[b8], []])]), x ∈ fl [[b8], []] := fun x hx => hsb0 x (fl_unfold x hx)
         have hcall := law15_four_w _ w47 (fl [[b8], []]) (MS.fold (P := []) hpk)  hx
         refine x_call 45 #[] #[] [] _ rfl rfl rfl rfl hcall ?_
         rintro v w49 ⟨a0_49, c0_49, rfl, he49, hf49_1⟩
         clear hcall hx
         refine inl1 ?_
         have hst := Stp.ext (ls := [[b8], []]) he49
         replace hf5_1 := hf5_1.step hst
         replace hf5_2 := hf5_2.step hst
         replace hb8 := he49.box hb8 nn
         replace hf20_1 := hf20_1.step hst
         replace hf23_1 := hf23_1.step hst
         replace hs25 := hs25.step hst
         replace hs27 := hs27.step hst
         replace hf30_1 := hf30_1.step hst
         replace hf30_2 := hf30_2.step hst
         replace hf36_1 := hf36_1.step hst
         replace hs38 := hs38.step hst
         replace hs40 := hs40.step hst
         replace hf43_1 := hf43_1.step hst
         replace hf43_2 := hf43_2.step hst
         replace hms := hms.ev he49
         replace hev := hev.ext he49
         have hsp : ∀ x ∈ fl [[b8], []], x ∈ fl ([] ++ [(fl [[b8], []])]) := fun x hx => fl_fold (P := []) x (pick_sup [some 0, some 1] [[b8], []] rfl rfl x hx)
         replace hf49_1 := hf49_1.sub hsp
         clear hpk hsb hsb0
         refine x_buildSlice (vs := [(0, Vi 1), (1, Vi 1), (2, Vi 0), (3, Vi 1)]) #[Vi 1, Vi 1, Vi 0, Vi 1] 3 rfl rfl rfl (by kernel_rfl) (fun b51 w51 hq51 hb51 he51 hz51 => ?_)
         refine inl1 ?_
         have hms0 := hms
         have hst := Stp.ext (ls := [[b8], []]) he51
         replace hf5_1 := hf5_1.step hst
         replace hf5_2 := hf5_2.step hst
         replace hb8 := he51.box hb8 nn
         replace hf20_1 := hf20_1.step hst
         replace hf23_1 := hf23_1.step hst
         replace hs25 := hs25.step hst
         replace hs27 := hs27.step hst
         replace hf30_1 := hf30_1.step hst
         replace hf30_2 := hf30_2.step hst
         replace hf36_1 := hf36_1.step hst
         replace hs38 := hs38.step hst
         replace hs40 := hs40.step hst
         replace hf43_1 := hf43_1.step hst
         replace hf43_2 := hf43_2.step hst
         replace hf49_1 := hf49_1.step hst
         replace hms := hms.ev he51
         replace hev := hev.ext he51
         have hs51 : SlR (eInt .i64) w51 (fl [[b8], []]) (Ad b51 0) 4 ([1, 1, 0, 1]) := ro_of_box hms0 hq51 hb51 rfl rfl (cells_at (cs := [Vi 1, Vi 1, Vi 0, Vi 1]) (CellsOf.cons (c := [Vi 1]) rfl (CellsOf.cons (c := [Vi 1]) rfl (CellsOf.cons (c := [Vi 0]) rfl (CellsOf.cons (c := [Vi 1]) rfl CellsOf.nil)))))
         clear hb51 hms0
         refine x_buildSlice (vs := [(0, Vi 2), (1, Vi 0), (2, Vi 3), (3, Vi 1)]) #[Vi 2, Vi 0, Vi 3, Vi 1] 3 rfl rfl rfl (by kernel_rfl) (fun b53 w53 hq53 hb53 he53 hz53 => ?_)
         refine inl1 ?_
         have hms0 := hms
         have hst := Stp.ext (ls := [[b8], []]) he53
         replace hf5_1 := hf5_1.step hst
         replace hf5_2 := hf5_2.step hst
         replace hb8 := he53.box hb8 nn
         replace hf20_1 := hf20_1.step hst
         replace hf23_1 := hf23_1.step hst
         replace hs25 := hs25.step hst
         replace hs27 := hs27.step hst
         replace hf30_1 := hf30_1.step hst
         replace hf30_2 := hf30_2.step hst
         replace hf36_1 := hf36_1.step hst
         replace hs38 := hs38.step hst
         replace hs40 := hs40.step hst
         replace hf43_1 := hf43_1.step hst
         replace hf43_2 := hf43_2.step hst
         replace hf49_1 := hf49_1.step hst
         replace hs51 := hs51.step hst
         replace hms := hms.ev he53
         replace hev := hev.ext he53
         have hs53 : SlR (eInt .i64) w53 (fl [[b8], []]) (Ad b53 0) 4 ([2, 0, 3, 1]) := ro_of_box hms0 hq53 hb53 rfl rfl (cells_at (cs := [Vi 2, Vi 0, Vi 3, Vi 1]) (CellsOf.cons (c := [Vi 2]) rfl (CellsOf.cons (c := [Vi 0]) rfl (CellsOf.cons (c := [Vi 3]) rfl (CellsOf.cons (c := [Vi 1]) rfl CellsOf.nil)))))
         clear hb53 hms0
         obtain ⟨x55, hx, h⟩ := bind_some h
         have hpk : MS w53 ([] ++ [[b8], []]) := hms.pick [some 0, some 1] _ rfl
         have hsb0 : ∀ x ∈ fl ([] ++ [[b8], []]), x ∈ fl [[b8], []] := pick_sub [some 0, some 1] _ rfl
         have hsb : ∀ x ∈ fl ([] ++ [(fl [[b8], []])]), x ∈ fl [[b8], []] := fun x hx => hsb0 x (fl_unfold x hx)
         have hcall := law15_proof_w 2 (Ad b51 0) 4 ([1, 1, 0, 1]) (Ad b53 0) 4 ([2, 0, 3, 1]) _ w53 (fl [[b8], []]) (MS.fold (P := []) hpk) (hs51.sub hsb) (hs53.sub hsb) hx
         refine x_call 20 #[] #[] [Vi 2, .slice (Ad b51 0) ([1, 1, 0, 1]).length 4, .slice (Ad b53 0) ([2, 0, 3, 1]).length 4] _ rfl rfl rfl rfl hcall ?_
         rintro v w56 ⟨a0_56, c0_56, a2_56, c2_56, rfl, he56, hf56_1, hf56_2⟩
         clear hcall hx
         refine inl1 ?_
         have hst := Stp.ext (ls := [[b8], []]) he56
         replace hf5_1 := hf5_1.step hst
         replace hf5_2 := hf5_2.step hst
         replace hb8 := he56.box hb8 nn
         replace hf20_1 := hf20_1.step hst
         replace hf23_1 := hf23_1.step hst
         replace hs25 := hs25.step hst
         replace hs27 := hs27.step hst
         replace hf30_1 := hf30_1.step hst
         replace hf30_2 := hf30_2.step hst
         replace hf36_1 := hf36_1.step hst
         replace hs38 := hs38.step hst
         replace hs40 := hs40.step hst
         replace hf43_1 := hf43_1.step hst
         replace hf43_2 := hf43_2.step hst
         replace hf49_1 := hf49_1.step hst
         replace hs51 := hs51.step hst
         replace hs53 := hs53.step hst
         replace hms := hms.ev he56
         replace hev := hev.ext he56
         have hsp : ∀ x ∈ fl [[b8], []], x ∈ fl ([] ++ [(fl [[b8], []])]) := fun x hx => fl_fold (P := []) x (pick_sup [some 0, some 1] [[b8], []] rfl rfl x hx)
         replace hf56_1 := hf56_1.sub hsp
         replace hf56_2 := hf56_2.sub hsp
         clear hpk hsb hsb0
         obtain ⟨x59, hx, h⟩ := bind_some h
         have hpk : MS w56 ([] ++ [[b8], []]) := hms.pick [some 0, some 1] _ rfl
         have hsb0 : ∀ x ∈ fl ([] ++ [[b8], []]), x ∈ fl [[b8], []] := pick_sub [some 0, some 1] _ rfl
         have hsb : ∀ x ∈ fl ([] ++ [(fl [[b8], []])]), x ∈ fl [[b8], []] := fun x hx => hsb0 x (fl_unfold x hx)
         have hcall := certificate_Check_w a0_49 c0_49 x48.1 x48.2 x55.1.1 a0_56 c0_56 x55.1.2 a2_56 c2_56 x55.2 _ w56 (fl [[b8], []]) (MS.fold (P := []) hpk) (hf49_1.sub hsb) (hf56_1.sub hsb) (hf56_2.sub hsb) hx
         refine x_call 14 #[] #[] [.agg #[Vl a0_49 x48.1 c0_49, Vi x48.2], .agg #[Vi x55.1.1, Vl a0_56 x55.1.2 c0_56, Vl a2_56 x55.2 c2_56]] _ rfl rfl rfl rfl hcall ?_
         rintro v w60 ⟨rfl, he60⟩
         clear hcall hx
         refine inl1 ?_
         have hst := Stp.ext (ls := [[b8], []]) he60
         replace hf5_1 := hf5_1.step hst
         replace hf5_2 := hf5_2.step hst
         replace hb8 := he60.box hb8 nn
         replace hf20_1 := hf20_1.step hst
         replace hf23_1 := hf23_1.step hst
         replace hs25 := hs25.step hst
         replace hs27 := hs27.step hst
         replace hf30_1 := hf30_1.step hst
         replace hf30_2 := hf30_2.step hst
         replace hf36_1 := hf36_1.step hst
         replace hs38 := hs38.step hst
         replace hs40 := hs40.step hst
         replace hf43_1 := hf43_1.step hst
         replace hf43_2 := hf43_2.step hst
         replace hf49_1 := hf49_1.step hst
         replace hs51 := hs51.step hst
         replace hs53 := hs53.step hst
         replace hf56_1 := hf56_1.step hst
         replace hf56_2 := hf56_2.step hst
         replace hms := hms.ev he60
         replace hev := hev.ext he60
         clear hpk hsb hsb0
         refine x_u 3 [(47, .bool (x59 == 12)), (48, .bool (x59 == 12)), (49, .bool (x59 == 12))] ?_
         refine x_if 49 (x59 == 12) rfl h (fun h => ?_) (fun h => ?_)
         · obtain ⟨x61, hx, h⟩ := bind_some h
           have hpk : MS w60 ([] ++ [[b8], []]) := hms.pick [some 0, some 1] _ rfl
           have hsb0 : ∀ x ∈ fl ([] ++ [[b8], []]), x ∈ fl [[b8], []] := pick_sub [some 0, some 1] _ rfl
           have hsb : ∀ x ∈ fl ([] ++ [(fl [[b8], []])]), x ∈ fl [[b8], []] := fun x hx => hsb0 x (fl_unfold x hx)
           have hcall := law15_four_w _ w60 (fl [[b8], []]) (MS.fold (P := []) hpk)  hx
           refine x_call 45 #[] #[] [] _ rfl rfl rfl rfl hcall ?_
           rintro v w62 ⟨a0_62, c0_62, rfl, he62, hf62_1⟩
           clear hcall hx
           refine inl1 ?_
           have hst := Stp.ext (ls := [[b8], []]) he62
           replace hf5_1 := hf5_1.step hst
           replace hf5_2 := hf5_2.step hst
           replace hb8 := he62.box hb8 nn
           replace hf20_1 := hf20_1.step hst
           replace hf23_1 := hf23_1.step hst
           replace hs25 := hs25.step hst
           replace hs27 := hs27.step hst
           replace hf30_1 := hf30_1.step hst
           replace hf30_2 := hf30_2.step hst
           replace hf36_1 := hf36_1.step hst
           replace hs38 := hs38.step hst
           replace hs40 := hs40.step hst
           replace hf43_1 := hf43_1.step hst
           replace hf43_2 := hf43_2.step hst
           replace hf49_1 := hf49_1.step hst
           replace hs51 := hs51.step hst
           replace hs53 := hs53.step hst
           replace hf56_1 := hf56_1.step hst
           replace hf56_2 := hf56_2.step hst
           replace hms := hms.ev he62
           replace hev := hev.ext he62
           have hsp : ∀ x ∈ fl [[b8], []], x ∈ fl ([] ++ [(fl [[b8], []])]) := fun x hx => fl_fold (P := []) x (pick_sup [some 0, some 1] [[b8], []] rfl rfl x hx)
           replace hf62_1 := hf62_1.sub hsp
           clear hpk hsb hsb0
           refine x_buildSlice (vs := [(0, Vi 1), (1, Vi 3), (2, Vi 0), (3, Vi 1)]) #[Vi 1, Vi 3, Vi 0, Vi 1] 3 rfl rfl rfl (by kernel_rfl) (fun b64 w64 hq64 hb64 he64 hz64 => ?_)
           refine inl1 ?_
           have hms0 := hms
           have hst := Stp.ext (ls := [[b8], []]) he64
           replace hf5_1 := hf5_1.step hst
           replace hf5_2 := hf5_2.step hst
           replace hb8 := he64.box hb8 nn
           replace hf20_1 := hf20_1.step hst
           replace hf23_1 := hf23_1.step hst
           replace hs25 := hs25.step hst
           replace hs27 := hs27.step hst
           replace hf30_1 := hf30_1.step hst
           replace hf30_2 := hf30_2.step hst
           replace hf36_1 := hf36_1.step hst
           replace hs38 := hs38.step hst
           replace hs40 := hs40.step hst
           replace hf43_1 := hf43_1.step hst
           replace hf43_2 := hf43_2.step hst
           replace hf49_1 := hf49_1.step hst
           replace hs51 := hs51.step hst
           replace hs53 := hs53.step hst
           replace hf56_1 := hf56_1.step hst
           replace hf56_2 := hf56_2.step hst
           replace hf62_1 := hf62_1.step hst
           replace hms := hms.ev he64
           replace hev := hev.ext he64
           have hs64 : SlR (eInt .i64) w64 (fl [[b8], []]) (Ad b64 0) 4 ([1, 3, 0, 1]) := ro_of_box hms0 hq64 hb64 rfl rfl (cells_at (cs := [Vi 1, Vi 3, Vi 0, Vi 1]) (CellsOf.cons (c := [Vi 1]) rfl (CellsOf.cons (c := [Vi 3]) rfl (CellsOf.cons (c := [Vi 0]) rfl (CellsOf.cons (c := [Vi 1]) rfl CellsOf.nil)))))
           clear hb64 hms0
           refine x_buildSlice (vs := [(0, Vi 2), (1, Vi 0), (2, Vi 3), (3, Vi 1)]) #[Vi 2, Vi 0, Vi 3, Vi 1] 3 rfl rfl rfl (by kernel_rfl) (fun b66 w66 hq66 hb66 he66 hz66 => ?_)
           refine inl1 ?_
           have hms0 := hms
           have hst := Stp.ext (ls := [[b8], []]) he66
           replace hf5_1 := hf5_1.step hst
           replace hf5_2 := hf5_2.step hst
           replace hb8 := he66.box hb8 nn
           replace hf20_1 := hf20_1.step hst
           replace hf23_1 := hf23_1.step hst
           replace hs25 := hs25.step hst
           replace hs27 := hs27.step hst
           replace hf30_1 := hf30_1.step hst
           replace hf30_2 := hf30_2.step hst
           replace hf36_1 := hf36_1.step hst
           replace hs38 := hs38.step hst
           replace hs40 := hs40.step hst
           replace hf43_1 := hf43_1.step hst
           replace hf43_2 := hf43_2.step hst
           replace hf49_1 := hf49_1.step hst
           replace hs51 := hs51.step hst
           replace hs53 := hs53.step hst
           replace hf56_1 := hf56_1.step hst
           replace hf56_2 := hf56_2.step hst
           replace hf62_1 := hf62_1.step hst
           replace hs64 := hs64.step hst
           replace hms := hms.ev he66
           replace hev := hev.ext he66
           have hs66 : SlR (eInt .i64) w66 (fl [[b8], []]) (Ad b66 0) 4 ([2, 0, 3, 1]) := ro_of_box hms0 hq66 hb66 rfl rfl (cells_at (cs := [Vi 2, Vi 0, Vi 3, Vi 1]) (CellsOf.cons (c := [Vi 2]) rfl (CellsOf.cons (c := [Vi 0]) rfl (CellsOf.cons (c := [Vi 3]) rfl (CellsOf.cons (c := [Vi 1]) rfl CellsOf.nil)))))
           clear hb66 hms0
           obtain ⟨x68, hx, h⟩ := bind_some h
           have hpk : MS w66 ([] ++ [[b8], []]) := hms.pick [some 0, some 1] _ rfl
           have hsb0 : ∀ x ∈ fl ([] ++ [[b8], []]), x ∈ fl [[b8], []] := pick_sub [some 0, some 1] _ rfl
           have hsb : ∀ x ∈ fl ([] ++ [(fl [[b8], []])]), x ∈ fl [[b8], []] := fun x hx => hsb0 x (fl_unfold x hx)
           have hcall := law15_proof_w 2 (Ad b64 0) 4 ([1, 3, 0, 1]) (Ad b66 0) 4 ([2, 0, 3, 1]) _ w66 (fl [[b8], []]) (MS.fold (P := []) hpk) (hs64.sub hsb) (hs66.sub hsb) hx
           refine x_call 20 #[] #[] [Vi 2, .slice (Ad b64 0) ([1, 3, 0, 1]).length 4, .slice (Ad b66 0) ([2, 0, 3, 1]).length 4] _ rfl rfl rfl rfl hcall ?_
           rintro v w69 ⟨a0_69, c0_69, a2_69, c2_69, rfl, he69, hf69_1, hf69_2⟩
           clear hcall hx
           refine inl1 ?_
           have hst := Stp.ext (ls := [[b8], []]) he69
           replace hf5_1 := hf5_1.step hst
           replace hf5_2 := hf5_2.step hst
           replace hb8 := he69.box hb8 nn
           replace hf20_1 := hf20_1.step hst
           replace hf23_1 := hf23_1.step hst
           replace hs25 := hs25.step hst
           replace hs27 := hs27.step hst
           replace hf30_1 := hf30_1.step hst
           replace hf30_2 := hf30_2.step hst
           replace hf36_1 := hf36_1.step hst
           replace hs38 := hs38.step hst
           replace hs40 := hs40.step hst
           replace hf43_1 := hf43_1.step hst
           replace hf43_2 := hf43_2.step hst
           replace hf49_1 := hf49_1.step hst
           replace hs51 := hs51.step hst
           replace hs53 := hs53.step hst
           replace hf56_1 := hf56_1.step hst
           replace hf56_2 := hf56_2.step hst
           replace hf62_1 := hf62_1.step hst
           replace hs64 := hs64.step hst
           replace hs66 := hs66.step hst
           replace hms := hms.ev he69
           replace hev := hev.ext he69
           have hsp : ∀ x ∈ fl [[b8], []], x ∈ fl ([] ++ [(fl [[b8], []])]) := fun x hx => fl_fold (P := []) x (pick_sup [some 0, some 1] [[b8], []] rfl rfl x hx)
           replace hf69_1 := hf69_1.sub hsp
           replace hf69_2 := hf69_2.sub hsp
           clear hpk hsb hsb0
           obtain ⟨x72, hx, h⟩ := bind_some h
           have hpk : MS w69 ([] ++ [[b8], []]) := hms.pick [some 0, some 1] _ rfl
           have hsb0 : ∀ x ∈ fl ([] ++ [[b8], []]), x ∈ fl [[b8], []] := pick_sub [some 0, some 1] _ rfl
           have hsb : ∀ x ∈ fl ([] ++ [(fl [[b8], []])]), x ∈ fl [[b8], []] := fun x hx => hsb0 x (fl_unfold x hx)
           have hcall := certificate_Check_w a0_62 c0_62 x61.1 x61.2 x68.1.1 a0_69 c0_69 x68.1.2 a2_69 c2_69 x68.2 _ w69 (fl [[b8], []]) (MS.fold (P := []) hpk) (hf62_1.sub hsb) (hf69_1.sub hsb) (hf69_2.sub hsb) hx
           refine x_call 14 #[] #[] [.agg #[Vl a0_62 x61.1 c0_62, Vi x61.2], .agg #[Vi x68.1.1, Vl a0_69 x68.1.2 c0_69, Vl a2_69 x68.2 c2_69]] _ rfl rfl rfl rfl hcall ?_
           rintro v w73 ⟨rfl, he73⟩
           clear hcall hx
           refine inl1 ?_
           have hst := Stp.ext (ls := [[b8], []]) he73
           replace hf5_1 := hf5_1.step hst
           replace hf5_2 := hf5_2.step hst
           replace hb8 := he73.box hb8 nn
           replace hf20_1 := hf20_1.step hst
           replace hf23_1 := hf23_1.step hst
           replace hs25 := hs25.step hst
           replace hs27 := hs27.step hst
           replace hf30_1 := hf30_1.step hst
           replace hf30_2 := hf30_2.step hst
           replace hf36_1 := hf36_1.step hst
           replace hs38 := hs38.step hst
           replace hs40 := hs40.step hst
           replace hf43_1 := hf43_1.step hst
           replace hf43_2 := hf43_2.step hst
           replace hf49_1 := hf49_1.step hst
           replace hs51 := hs51.step hst
           replace hs53 := hs53.step hst
           replace hf56_1 := hf56_1.step hst
           replace hf56_2 := hf56_2.step hst
           replace hf62_1 := hf62_1.step hst
           replace hs64 := hs64.step hst
           replace hs66 := hs66.step hst
           replace hf69_1 := hf69_1.step hst
           replace hf69_2 := hf69_2.step hst
           replace hms := hms.ev he73
           replace hev := hev.ext he73
           clear hpk hsb hsb0
           refine x_u 3 [(55, .bool (x72 == 0)), (56, .bool (x72 == 0)), (57, .bool (x72 == 0))] ?_
           refine x_if 57 (x72 == 0) rfl h (fun h => ?_) (fun h => ?_)
           · refine x_u 4 [(58, Vi x19.2), (59, .bool (x19.2 == 0)), (60, .bool (x19.2 == 0)), (61, .bool (x19.2 == 0))] ?_
             refine x_if 61 (x19.2 == 0) rfl h (fun h => ?_) (fun h => ?_)
             · refine x_u 1 [(62, Vl a0_20 x19.1 c0_20)] ?_
               refine x_buildSlice (vs := [(0, .int .u8 1), (1, .int .u8 1), (2, .int .u8 0), (3, .int .u8 1), (4, .int .u8 1), (5, .int .u8 0)]) #[.int .u8 1, .int .u8 1, .int .u8 0, .int .u8 1, .int .u8 1, .int .u8 0] 5 rfl rfl rfl (by kernel_rfl) (fun b74 w74 hq74 hb74 he74 hz74 => ?_)
               refine inl1 ?_
               have hms0 := hms
               have hst := Stp.ext (ls := [[b8], []]) he74
               replace hf5_1 := hf5_1.step hst
               replace hf5_2 := hf5_2.step hst
               replace hb8 := he74.box hb8 nn
               replace hf20_1 := hf20_1.step hst
               replace hf23_1 := hf23_1.step hst
               replace hs25 := hs25.step hst
               replace hs27 := hs27.step hst
               replace hf30_1 := hf30_1.step hst
               replace hf30_2 := hf30_2.step hst
               replace hf36_1 := hf36_1.step hst
               replace hs38 := hs38.step hst
               replace hs40 := hs40.step hst
               replace hf43_1 := hf43_1.step hst
               replace hf43_2 := hf43_2.step hst
               replace hf49_1 := hf49_1.step hst
               replace hs51 := hs51.step hst
               replace hs53 := hs53.step hst
               replace hf56_1 := hf56_1.step hst
               replace hf56_2 := hf56_2.step hst
               replace hf62_1 := hf62_1.step hst
               replace hs64 := hs64.step hst
               replace hs66 := hs66.step hst
               replace hf69_1 := hf69_1.step hst
               replace hf69_2 := hf69_2.step hst
               replace hms := hms.ev he74
               replace hev := hev.ext he74
               have hs74 : SlR (eInt .u8) w74 (fl [[b8], []]) (Ad b74 0) 6 ([1, 1, 0, 1, 1, 0]) := ro_of_box hms0 hq74 hb74 rfl rfl (cells_at (cs := [.int .u8 1, .int .u8 1, .int .u8 0, .int .u8 1, .int .u8 1, .int .u8 0]) (CellsOf.cons (c := [.int .u8 1]) rfl (CellsOf.cons (c := [.int .u8 1]) rfl (CellsOf.cons (c := [.int .u8 0]) rfl (CellsOf.cons (c := [.int .u8 1]) rfl (CellsOf.cons (c := [.int .u8 1]) rfl (CellsOf.cons (c := [.int .u8 0]) rfl CellsOf.nil)))))))
               clear hb74 hms0
               obtain ⟨x76, hx, h⟩ := bind_some h
               have hpk : MS w74 ([] ++ [[b8], []]) := hms.pick [some 0, some 1] _ rfl
               have hsb0 : ∀ x ∈ fl ([] ++ [[b8], []]), x ∈ fl [[b8], []] := pick_sub [some 0, some 1] _ rfl
               have hsb : ∀ x ∈ fl ([] ++ [(fl [[b8], []])]), x ∈ fl [[b8], []] := fun x hx => hsb0 x (fl_unfold x hx)
               have hcall := gen_Bytes_w a0_20 c0_20 x19.1 (Ad b74 0) 6 ([1, 1, 0, 1, 1, 0]) _ w74 (fl [[b8], []]) (MS.fold (P := []) hpk) (hf20_1.sub hsb) (hs74.sub hsb) hx
               refine x_call 24 #[] #[] [Vl a0_20 x19.1 c0_20, .slice (Ad b74 0) ([1, 1, 0, 1, 1, 0]).length 6] _ rfl rfl rfl rfl hcall ?_
               rintro v w77 ⟨rfl, he77⟩
               clear hcall hx
               refine inl1 ?_
               have hst := Stp.ext (ls := [[b8], []]) he77
               replace hf5_1 := hf5_1.step hst
               replace hf5_2 := hf5_2.step hst
               replace hb8 := he77.box hb8 nn
               replace hf20_1 := hf20_1.step hst
               replace hf23_1 := hf23_1.step hst
               replace hs25 := hs25.step hst
               replace hs27 := hs27.step hst
               replace hf30_1 := hf30_1.step hst
               replace hf30_2 := hf30_2.step hst
               replace hf36_1 := hf36_1.step hst
               replace hs38 := hs38.step hst
               replace hs40 := hs40.step hst
               replace hf43_1 := hf43_1.step hst
               replace hf43_2 := hf43_2.step hst
               replace hf49_1 := hf49_1.step hst
               replace hs51 := hs51.step hst
               replace hs53 := hs53.step hst
               replace hf56_1 := hf56_1.step hst
               replace hf56_2 := hf56_2.step hst
               replace hf62_1 := hf62_1.step hst
               replace hs64 := hs64.step hst
               replace hs66 := hs66.step hst
               replace hf69_1 := hf69_1.step hst
               replace hf69_2 := hf69_2.step hst
               replace hs74 := hs74.step hst
               replace hms := hms.ev he77
               replace hev := hev.ext he77
               clear hpk hsb hsb0
               refine x_u 2 [(65, .bool x76), (0, .bool x76)] ?_
               refine x_ek ?_
               refine c_norm [(0, .bool x76)] ⟨rfl, trivial⟩ (fun J => ?_)
               refine c_ret ?_
               refine r_ret (r_vals [.bool x76] ⟨rfl, trivial⟩ ?_)
               have hx := some_inj h
               subst hx
               exact ⟨rfl, hev⟩
             refine x_u 5 [(62, undef), (63, undef), (64, undef), (65, .bool false), (0, .bool false)] ?_
             refine x_ek ?_
             refine c_norm [(0, .bool false)] ⟨rfl, trivial⟩ (fun J => ?_)
             refine c_ret ?_
             refine r_ret (r_vals [.bool false] ⟨rfl, trivial⟩ ?_)
             have hx := some_inj h
             subst hx
             exact ⟨rfl, hev⟩
           refine x_u 9 [(58, undef), (59, undef), (60, .bool false), (61, .bool false), (62, undef), (63, undef), (64, undef), (65, .bool false), (0, .bool false)] ?_
           refine x_ek ?_
           refine c_norm [(0, .bool false)] ⟨rfl, trivial⟩ (fun J => ?_)
           refine c_ret ?_
           refine r_ret (r_vals [.bool false] ⟨rfl, trivial⟩ ?_)
           have hx := some_inj h
           subst hx
           exact ⟨rfl, hev⟩
         refine x_u 17 [(50, undef), (51, undef), (52, undef), (53, undef), (54, undef), (55, undef), (56, .bool false), (57, .bool false), (58, undef), (59, undef), (60, .bool false), (61, .bool false), (62, undef), (63, undef), (64, undef), (65, .bool false), (0, .bool false)] ?_
         refine x_ek ?_
         refine c_norm [(0, .bool false)] ⟨rfl, trivial⟩ (fun J => ?_)
         refine c_ret ?_
         refine r_ret (r_vals [.bool false] ⟨rfl, trivial⟩ ?_)
         have hx := some_inj h
         subst hx
         exact ⟨rfl, hev⟩
       refine x_u 25 [(42, undef), (43, undef), (44, undef), (45, undef), (46, undef), (47, undef), (48, .bool false), (49, .bool false), (50, undef), (51, undef), (52, undef), (53, undef), (54, undef), (55, undef), (56, .bool false), (57, .bool false), (58, undef), (59, undef), (60, .bool false), (61, .bool false), (62, undef), (63, undef), (64, undef), (65, .bool false), (0, .bool false)] ?_
       refine x_ek ?_
       refine c_norm [(0, .bool false)] ⟨rfl, trivial⟩ (fun J => ?_)
       refine c_ret ?_
       refine r_ret (r_vals [.bool false] ⟨rfl, trivial⟩ ?_)
       have hx := some_inj h
       subst hx
       exact ⟨rfl, hev⟩
     refine x_u 33 [(34, undef), (35, undef), (36, undef), (37, undef), (38, undef), (39, undef), (40, .bool false), (41, .bool false), (42, undef), (43, undef), (44, undef), (45, undef), (46, undef), (47, undef), (48, .bool false), (49, .bool false), (50, undef), (51, undef), (52, undef), (53, undef), (54, undef), (55, undef), (56, .bool false), (57, .bool false), (58, undef), (59, undef), (60, .bool false), (61, .bool false), (62, undef), (63, undef), (64, undef), (65, .bool false), (0, .bool false)] ?_
     refine x_ek ?_
     refine c_norm [(0, .bool false)] ⟨rfl, trivial⟩ (fun J => ?_)
     refine c_ret ?_
     refine r_ret (r_vals [.bool false] ⟨rfl, trivial⟩ ?_)
     have hx := some_inj h
     subst hx
     exact ⟨rfl, hev⟩
   refine x_u 41 [(26, undef), (27, undef), (28, undef), (29, undef), (30, undef), (31, undef), (32, .bool false), (33, .bool false), (34, undef), (35, undef), (36, undef), (37, undef), (38, undef), (39, undef), (40, .bool false), (41, .bool false), (42, undef), (43, undef), (44, undef), (45, undef), (46, undef), (47, undef), (48, .bool false), (49, .bool false), (50, undef), (51, undef), (52, undef), (53, undef), (54, undef), (55, undef), (56, .bool false), (57, .bool false), (58, undef), (59, undef), (60, .bool false), (61, .bool false), (62, undef), (63, undef), (64, undef), (65, .bool false), (0, .bool false)] ?_
   refine x_ek ?_
   refine c_norm [(0, .bool false)] ⟨rfl, trivial⟩ (fun J => ?_)
   refine c_ret ?_
   refine r_ret (r_vals [.bool false] ⟨rfl, trivial⟩ ?_)
   have hx := some_inj h
   subst hx
   exact ⟨rfl, hev⟩
 refine x_u 47 [(20, undef), (21, undef), (22, undef), (23, undef), (24, .bool false), (25, .bool false), (26, undef), (27, undef), (28, undef), (29, undef), (30, undef), (31, undef), (32, .bool false), (33, .bool false), (34, undef), (35, undef), (36, undef), (37, undef), (38, undef), (39, undef), (40, .bool false), (41, .bool false), (42, undef), (43, undef), (44, undef), (45, undef), (46, undef), (47, undef), (48, .bool false), (49, .bool false), (50, undef), (51, undef), (52, undef), (53, undef), (54, undef), (55, undef), (56, .bool false), (57, .bool false), (58, undef), (59, undef), (60, .bool false), (61, .bool false), (62, undef), (63, undef), (64, undef), (65, .bool false), (0, .bool false)] ?_
 refine x_ek ?_
 refine c_norm [(0, .bool false)] ⟨rfl, trivial⟩ (fun J => ?_)
 refine c_ret ?_
 refine r_ret (r_vals [.bool false] ⟨rfl, trivial⟩ ?_)
 have hx := some_inj h
 subst hx
 exact ⟨rfl, hev⟩
end Go.Proofs.Ytcignnfdpgeogaa
