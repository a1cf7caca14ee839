/- Walks, printed by program: each function returns what the partial function of the same name returns. Conditions: those of each theorem. -/
import Derived.Test.YtmjobkpgnhbcbaaGT
import Derived.Test.YtmjobkpgnhbcbaaGgen
import Derived.Test.YtmjobkpgnhbcbaaGr14
import Derived.Test.YtmjobkpgnhbcbaaGrollin
set_option linter.unusedVariables false
set_option linter.unusedSimpArgs false
set_option maxRecDepth 4000
namespace Go.Proofs.Ytmjobkpgnhbcbaa
open Go Go.V Go.Proofs
def law14_exact (p0_0 : List (Int × Int × Int × Int)) (p0_1 : Int) (p1_0 : Int) (p1_1 : List Int) (p2 : Int) : Option Bool :=
((rollin_Contents p0_0 p0_1 p1_0 p1_1 p2).bind fun x7 =>
((r14_Contents p0_0 p0_1 p1_0 p1_1 p2).bind fun x11 =>
((rollin_Valid p0_0 p0_1 p1_0 p1_1).bind fun x16 =>
((r14_Valid p0_0 p0_1 p1_0 p1_1).bind fun x18 =>
(if (x16 != x18) = true then
some false
else
((gen_Lists x7.1 x11.1).bind fun x20 =>
(if (!x20) = true then
some false
else
((gen_Lists x7.2.1 x11.2.1).bind fun x22 =>
(if (!x22) = true then
some false
else
(if (x7.2.2 != x11.2.2) = true then
some false
else
((rollin_Run p0_0 p0_1 p1_0 p1_1).bind fun x24 =>
((r14_Run p0_0 p0_1 p1_0 p1_1).bind fun x30 =>
((rollin_Loads p0_0 p0_1 p1_0 p1_1).bind fun x36 =>
((r14_Loads p0_0 p0_1 p1_0 p1_1).bind fun x39 =>
((gen_Lists x24.1.1 x30.1.1).bind fun x43 =>
(if (!x43) = true then
some false
else
(if (x24.1.2 != x30.1.2) = true then
some false
else
(if (x24.2 != x30.2) = true then
some false
else
((gen_Ints x36.1 x39.1).bind fun x45 =>
(if (!x45) = true then
some false
else
(if (x36.2 != x39.2) = true then
some false
else
((rollin_Pushes p0_0 p0_1 p1_0 p1_1).bind fun x47 =>
((r14_Pushes p0_0 p0_1 p1_0 p1_1).bind fun x49 =>
(if (x47.1 == x49.1) = true then
some (x47.2 == x49.2)
else
some false))))))))))))))))))))))))

theorem law14_exact_w (a_p0_0 : Option Addr) (c_p0_0 : Nat) (p0_0 : List (Int × Int × Int × Int)) (p0_1 : Int) (p1_0 : Int) (a_p1_1 : Option Addr) (c_p1_1 : Nat) (p1_1 : List Int) (p2 : Int) (r : Bool) (w : World) (M : List Nat) (hms : MS w [M]) (hs_p0_0 : SlR (eProd (eInt .i64) (eProd (eInt .i64) (eProd (eInt .i64) (eInt .i64)))) w (fl [M]) a_p0_0 c_p0_0 p0_0) (hs_p1_1 : SlR (eInt .i64) w (fl [M]) a_p1_1 c_p1_1 p1_1) (h : law14_exact p0_0 p0_1 p1_0 p1_1 p2 = some r) : CallVC Try.prog 25 [.agg #[.slice a_p0_0 (p0_0).length c_p0_0, .int .i64 p0_1], .agg #[.int .i64 p1_0, .slice a_p1_1 (p1_1).length c_p1_1], .int .i64 p2] w fun v w' => v = .bool r ∧ Ev [] w w' := by
  refine calls_vc hmx Try.func25 (by kernel_rfl) rfl (rs := [.tmp 6]) rfl (by kernel_rfl) (args := [.agg #[.slice a_p0_0 (p0_0).length c_p0_0, .int .i64 p0_1], .agg #[.int .i64 p1_0, .slice a_p1_1 (p1_1).length c_p1_1], .int .i64 p2]) rfl ?_
  have hev : Ev [] w w := Ev.refl _ _
  have hfr : FR w.heap.size [] := FR.nil _
  refine c_seq (c_plain ?_)
  refine x_box (xv := .agg #[.slice a_p0_0 (p0_0).length c_p0_0, .int .i64 p0_1]) rfl rfl rfl (fun b3 w3 hq3 hb3 he3 _ => ?_)
  replace hb3 : w3.heap[b3]? = some (.cells #[.slice a_p0_0 (p0_0).length c_p0_0, .int .i64 p0_1] 27 (0, 0)) := hb3
  refine ⟨.inl rfl, ?_⟩
  have hst := Stp.box (ls := [M]) he3 hq3
  replace hs_p0_0 := hs_p0_0.step hst
  replace hs_p1_1 := hs_p1_1.step hst
  replace hms := hms.box he3 hq3 hb3
  replace hfr := hfr.box hev.size hq3
  replace hev := hev.ext he3
  refine x_box (xv := .agg #[.int .i64 p1_0, .slice a_p1_1 (p1_1).length c_p1_1]) rfl rfl rfl (fun b5 w5 hq5 hb5 he5 _ => ?_)
  replace hb5 : w5.heap[b5]? = some (.cells #[.int .i64 p1_0, .slice a_p1_1 (p1_1).length c_p1_1] 30 (0, 0)) := hb5
  refine ⟨.inl rfl, ?_⟩
  have hst := Stp.box (ls := [[b3], M]) he5 hq5
  replace hs_p0_0 := hs_p0_0.step hst
  replace hs_p1_1 := hs_p1_1.step hst
  replace hb3 := he5.box hb3 nn
  replace hms := hms.box he5 hq5 hb5
  replace hfr := hfr.box hev.size hq5
  replace hev := hev.ext he5
  refine x_pure 1 [(6, .bool false)] _ _ _ (by kernel_rfl) ?_
  refine x_end rfl (k_then ?_)
  refine c_seq (c_plain ?_)
  refine x_load (xv := .pointer (some ⟨b3, 0, none⟩)) (.agg #[.slice a_p0_0 (p0_0).length c_p0_0, .int .i64 p0_1]) rfl rfl rfl (reads_boxagg 0 [.slice a_p0_0 (p0_0).length c_p0_0, .int .i64 p0_1] tagg27 hb3 nn rfl) ?_
  refine x_load (xv := .pointer (some ⟨b5, 0, none⟩)) (.agg #[.int .i64 p1_0, .slice a_p1_1 (p1_1).length c_p1_1]) rfl rfl rfl (reads_boxagg 0 [.int .i64 p1_0, .slice a_p1_1 (p1_1).length c_p1_1] tagg30 hb5 nn rfl) ?_
  refine x_pure 1 [(24, .int .i64 p2)] _ _ _ (by kernel_rfl) ?_
  obtain ⟨x7, hx, h⟩ := bind_some h
  have hpk : MS w5 ([] ++ [[b5], [b3], M]) := hms.pick [some 0, some 1, some 2] _ rfl
  have hsb0 : ∀ x ∈ fl ([] ++ [[b5], [b3], M]), x ∈ fl [[b5], [b3], M] := pick_sub [some 0, some 1, some 2] _ rfl
  have hsb : ∀ x ∈ fl ([] ++ [(fl [[b5], [b3], M])]), x ∈ fl [[b5], [b3], M] := fun x hx => hsb0 x (fl_unfold x hx)
  have hcall := rollin_Contents_w a_p0_0 c_p0_0 p0_0 p0_1 p1_0 a_p1_1 c_p1_1 p1_1 p2 _ w5 (fl [[b5], [b3], M]) (MS.fold (P := []) hpk) (hs_p0_0.sub hsb) (hs_p1_1.sub hsb) hx
  refine x_call 16 #[] #[] [.agg #[.slice a_p0_0 (p0_0).length c_p0_0, .int .i64 p0_1], .agg #[.int .i64 p1_0, .slice a_p1_1 (p1_1).length c_p1_1], .int .i64 p2] _ rfl rfl rfl rfl hcall ?_
  rintro v w8 ⟨a0_8, c0_8, B2_8, a3_8, c3_8, B5_8, rfl, he8, hmn8, hfn8, hf8_1, hf8_2⟩
  clear hcall hx
  refine ⟨.inl rfl, ?_⟩
  have hpk2 : MS w5 ([] ++ [[b5], [b3], M]) := hms.pick [some 0, some 1, some 2] _ rfl
  have hsb2 : ∀ x ∈ fl ([] ++ [[b5], [b3], M]), x ∈ fl [[b5], [b3], M] := pick_sub [some 0, some 1, some 2] _ rfl
  have hst0 := Stp.call (LS := [[b5], [b3], M]) (res := [B2_8, B5_8]) (par := []) (R := [[b5], [b3], M]) he8 (fun b hb => hsb2 b (fl_left' (P := []) b hb)) hfn8 (NP.init _ _) (fun x hx => hsb2 x (fl_right' (P := []) x hx))
  have hsn : ∀ x ∈ fl [B2_8, B5_8, [b5], [b3], M], x ∈ fl ([B2_8, B5_8] ++ ([] ++ [[b5], [b3], M])) := pick_sub [some 0, some 1, some 2, some 3, some 4] _ rfl
  have hst := hst0.res hsn
  replace hs_p0_0 := hs_p0_0.step hst
  replace hs_p1_1 := hs_p1_1.step hst
  replace hb3 := he8.box hb3 ((MS.outs (P := []) hpk2 1 rfl) _ (List.mem_singleton.2 rfl))
  replace hb5 := he8.box hb5 ((MS.outs (P := []) hpk2 0 rfl) _ (List.mem_singleton.2 rfl))
  replace hms : MS w8 [B2_8, B5_8, [b5], [b3], M] := (MS.call (P := []) (R := [[b5], [b3], M]) (res := [B2_8, B5_8]) (par := []) hpk2 he8 hmn8 hfn8 (NP.init _ _)).pick [some 0, some 1, some 2, some 3, some 4] _ rfl
  have hfr2 : FR w.heap.size [B2_8, B5_8, [b5], [b3]] := (FR.cons (fun b hb => Nat.le_trans hev.size (hfn8.at 0 rfl b hb)) (FR.cons (fun b hb => Nat.le_trans hev.size (hfn8.at 1 rfl b hb)) (FR.cons (hfr.at 0 rfl) (FR.cons (hfr.at 1 rfl) (FR.nil _)))))
  replace hev := hev.ext he8
  replace hfr := hfr2
  clear hfr2
  clear hpk hsb hsb0 hpk2 hsb2 hst0 hsn hst
  have hpk : MS w8 [B5_8, [b5], [b3], M] := hms.pick [some 1, some 2, some 3, some 4] _ rfl
  have hsu : ∀ x ∈ fl [B5_8, [b5], [b3], M], x ∈ fl [B2_8, B5_8, [b5], [b3], M] := pick_sub [some 1, some 2, some 3, some 4] _ rfl
  replace hs_p0_0 := hs_p0_0.sub hsu
  replace hs_p1_1 := hs_p1_1.sub hsu
  replace hf8_1 := hf8_1.ro (plain_int _) (pick_out hms 0 rfl [some 1, some 2, some 3, some 4] [B5_8, [b5], [b3], M] rfl rfl)
  replace hms := hpk
  replace hfr : FR w.heap.size [B5_8, [b5], [b3]] := hfr.pick [some 1, some 2, some 3] _ rfl
  clear hpk hsu
  have hpk : MS w8 [[b5], [b3], M] := hms.pick [some 1, some 2, some 3] _ rfl
  have hsu : ∀ x ∈ fl [[b5], [b3], M], x ∈ fl [B5_8, [b5], [b3], M] := pick_sub [some 1, some 2, some 3] _ rfl
  replace hs_p0_0 := hs_p0_0.sub hsu
  replace hs_p1_1 := hs_p1_1.sub hsu
  replace hf8_1 := hf8_1.sub hsu
  replace hf8_2 := hf8_2.ro (plain_int _) (pick_out hms 0 rfl [some 1, some 2, some 3] [[b5], [b3], M] rfl rfl)
  replace hms := hpk
  replace hfr : FR w.heap.size [[b5], [b3]] := hfr.pick [some 1, some 2] _ rfl
  clear hpk hsu
  refine x_pure 7 [(21, .tuple #[.slice a0_8 (x7.1).length c0_8, .slice a3_8 (x7.2.1).length c3_8, .int .i64 x7.2.2]), (26, .slice a0_8 (x7.1).length c0_8), (27, .slice a3_8 (x7.2.1).length c3_8), (28, .int .i64 x7.2.2), (7, .slice a0_8 (x7.1).length c0_8), (8, .slice a3_8 (x7.2.1).length c3_8), (9, .int .i64 x7.2.2)] _ _ _ (by kernel_rfl) ?_
  refine x_end rfl (k_then ?_)
  refine c_norm [(2, .int .i64 p2), (3, .pointer (some ⟨b3, 0, none⟩)), (4, .pointer (some ⟨b5, 0, none⟩)), (7, .slice a0_8 (x7.1).length c0_8), (8, .slice a3_8 (x7.2.1).length c3_8), (9, .int .i64 x7.2.2)] ⟨rfl, rfl, rfl, rfl, rfl, rfl, trivial⟩ (fun J => ?_)
  refine c_seq (c_plain ?_)
  refine x_load (xv := .pointer (some ⟨b3, 0, none⟩)) (.agg #[.slice a_p0_0 (p0_0).length c_p0_0, .int .i64 p0_1]) rfl rfl rfl (reads_boxagg 0 [.slice a_p0_0 (p0_0).length c_p0_0, .int .i64 p0_1] tagg27 hb3 nn rfl) ?_
  refine x_load (xv := .pointer (some ⟨b5, 0, none⟩)) (.agg #[.int .i64 p1_0, .slice a_p1_1 (p1_1).length c_p1_1]) rfl rfl rfl (reads_boxagg 0 [.int .i64 p1_0, .slice a_p1_1 (p1_1).length c_p1_1] tagg30 hb5 nn rfl) ?_
  refine x_pure 1 [(32, .int .i64 p2)] _ _ _ (by kernel_rfl) ?_
  obtain ⟨x11, hx, h⟩ := bind_some h
  have hpk : MS w8 ([] ++ [[b5], [b3], M]) := hms.pick [some 0, some 1, some 2] _ rfl
  have hsb0 : ∀ x ∈ fl ([] ++ [[b5], [b3], M]), x ∈ fl [[b5], [b3], M] := pick_sub [some 0, some 1, some 2] _ rfl
  have hsb : ∀ x ∈ fl ([] ++ [(fl [[b5], [b3], M])]), x ∈ fl [[b5], [b3], M] := fun x hx => hsb0 x (fl_unfold x hx)
  have hcall := r14_Contents_w a_p0_0 c_p0_0 p0_0 p0_1 p1_0 a_p1_1 c_p1_1 p1_1 p2 _ w8 (fl [[b5], [b3], M]) (MS.fold (P := []) hpk) (hs_p0_0.sub hsb) (hs_p1_1.sub hsb) hx
  refine x_call 36 #[] #[] [.agg #[.slice a_p0_0 (p0_0).length c_p0_0, .int .i64 p0_1], .agg #[.int .i64 p1_0, .slice a_p1_1 (p1_1).length c_p1_1], .int .i64 p2] _ rfl rfl rfl rfl hcall ?_
  rintro v w12 ⟨a0_12, c0_12, B2_12, a3_12, c3_12, B5_12, rfl, he12, hmn12, hfn12, hf12_1, hf12_2⟩
  clear hcall hx
  refine ⟨.inl rfl, ?_⟩
  have hpk2 : MS w8 ([] ++ [[b5], [b3], M]) := hms.pick [some 0, some 1, some 2] _ rfl
  have hsb2 : ∀ x ∈ fl ([] ++ [[b5], [b3], M]), x ∈ fl [[b5], [b3], M] := pick_sub [some 0, some 1, some 2] _ rfl
  have hst0 := Stp.call (LS := [[b5], [b3], M]) (res := [B2_12, B5_12]) (par := []) (R := [[b5], [b3], M]) he12 (fun b hb => hsb2 b (fl_left' (P := []) b hb)) hfn12 (NP.init _ _) (fun x hx => hsb2 x (fl_right' (P := []) x hx))
  have hsn : ∀ x ∈ fl [B2_12, B5_12, [b5], [b3], M], x ∈ fl ([B2_12, B5_12] ++ ([] ++ [[b5], [b3], M])) := pick_sub [some 0, some 1, some 2, some 3, some 4] _ rfl
  have hst := hst0.res hsn
  replace hs_p0_0 := hs_p0_0.step hst
  replace hs_p1_1 := hs_p1_1.step hst
  replace hb3 := he12.box hb3 ((MS.outs (P := []) hpk2 1 rfl) _ (List.mem_singleton.2 rfl))
  replace hb5 := he12.box hb5 ((MS.outs (P := []) hpk2 0 rfl) _ (List.mem_singleton.2 rfl))
  replace hf8_1 := hf8_1.step hst
  replace hf8_2 := hf8_2.step hst
  replace hms : MS w12 [B2_12, B5_12, [b5], [b3], M] := (MS.call (P := []) (R := [[b5], [b3], M]) (res := [B2_12, B5_12]) (par := []) hpk2 he12 hmn12 hfn12 (NP.init _ _)).pick [some 0, some 1, some 2, some 3, some 4] _ rfl
  have hfr2 : FR w.heap.size [B2_12, B5_12, [b5], [b3]] := (FR.cons (fun b hb => Nat.le_trans hev.size (hfn12.at 0 rfl b hb)) (FR.cons (fun b hb => Nat.le_trans hev.size (hfn12.at 1 rfl b hb)) (FR.cons (hfr.at 0 rfl) (FR.cons (hfr.at 1 rfl) (FR.nil _)))))
  replace hev := hev.ext he12
  replace hfr := hfr2
  clear hfr2
  clear hpk hsb hsb0 hpk2 hsb2 hst0 hsn hst
  have hpk : MS w12 [B5_12, [b5], [b3], M] := hms.pick [some 1, some 2, some 3, some 4] _ rfl
  have hsu : ∀ x ∈ fl [B5_12, [b5], [b3], M], x ∈ fl [B2_12, B5_12, [b5], [b3], M] := pick_sub [some 1, some 2, some 3, some 4] _ rfl
  replace hs_p0_0 := hs_p0_0.sub hsu
  replace hs_p1_1 := hs_p1_1.sub hsu
  replace hf8_1 := hf8_1.sub hsu
  replace hf8_2 := hf8_2.sub hsu
  replace hf12_1 := hf12_1.ro (plain_int _) (pick_out hms 0 rfl [some 1, some 2, some 3, some 4] [B5_12, [b5], [b3], M] rfl rfl)
  replace hms := hpk
  replace hfr : FR w.heap.size [B5_12, [b5], [b3]] := hfr.pick [some 1, some 2, some 3] _ rfl
  clear hpk hsu
  have hpk : MS w12 [[b5], [b3], M] := hms.pick [some 1, some 2, some 3] _ rfl
  have hsu : ∀ x ∈ fl [[b5], [b3], M], x ∈ fl [B5_12, [b5], [b3], M] := pick_sub [some 1, some 2, some 3] _ rfl
  replace hs_p0_0 := hs_p0_0.sub hsu
  replace hs_p1_1 := hs_p1_1.sub hsu
  replace hf8_1 := hf8_1.sub hsu
  replace hf8_2 := hf8_2.sub hsu
  replace hf12_1 := hf12_1.sub hsu
  replace hf12_2 := hf12_2.ro (plain_int _) (pick_out hms 0 rfl [some 1, some 2, some 3] [[b5], [b3], M] rfl rfl)
  replace hms := hpk
  replace hfr : FR w.heap.size [[b5], [b3]] := hfr.pick [some 1, some 2] _ rfl
  clear hpk hsu
  refine x_pure 7 [(29, .tuple #[.slice a0_12 (x11.1).length c0_12, .slice a3_12 (x11.2.1).length c3_12, .int .i64 x11.2.2]), (34, .slice a0_12 (x11.1).length c0_12), (35, .slice a3_12 (x11.2.1).length c3_12), (36, .int .i64 x11.2.2), (10, .slice a0_12 (x11.1).length c0_12), (11, .slice a3_12 (x11.2.1).length c3_12), (12, .int .i64 x11.2.2)] _ _ _ (by kernel_rfl) ?_
  refine x_end rfl (k_then ?_)
  refine c_seq ?_
  refine c_seq ?_
  refine c_drawn [] [(0, false), (1, false), (3, false), (4, false), (2, false), (5, false), (6, false), (7, false), (8, false), (9, false), (10, false), (11, false), (12, false), (13, false), (14, false), (15, false), (16, false), (17, false), (18, false), (19, false), (20, false), (21, false), (22, false), (23, false)] _ (by kernel_rfl) rfl ?_
  have hst := Stp.ext (ls := [[b5], [b3], M]) (Ev.drew w12)
  replace hs_p0_0 := hs_p0_0.step hst
  replace hs_p1_1 := hs_p1_1.step hst
  replace hb3 := (Ev.drew w12).box hb3 nn
  replace hb5 := (Ev.drew w12).box hb5 nn
  replace hf8_1 := hf8_1.step hst
  replace hf8_2 := hf8_2.step hst
  replace hf12_1 := hf12_1.step hst
  replace hf12_2 := hf12_2.step hst
  replace hms := hms.ev (Ev.drew w12)
  replace hev := hev.ext (Ev.drew w12)
  refine x_load (xv := .pointer (some ⟨b3, 0, none⟩)) (.agg #[.slice a_p0_0 (p0_0).length c_p0_0, .int .i64 p0_1]) rfl rfl rfl (reads_boxagg 0 [.slice a_p0_0 (p0_0).length c_p0_0, .int .i64 p0_1] tagg27 hb3 nn rfl) ?_
  refine x_load (xv := .pointer (some ⟨b5, 0, none⟩)) (.agg #[.int .i64 p1_0, .slice a_p1_1 (p1_1).length c_p1_1]) rfl rfl rfl (reads_boxagg 0 [.int .i64 p1_0, .slice a_p1_1 (p1_1).length c_p1_1] tagg30 hb5 nn rfl) ?_
  refine x_load (xv := .pointer (some ⟨b3, 0, none⟩)) (.agg #[.slice a_p0_0 (p0_0).length c_p0_0, .int .i64 p0_1]) rfl rfl rfl (reads_boxagg 0 [.slice a_p0_0 (p0_0).length c_p0_0, .int .i64 p0_1] tagg27 hb3 nn rfl) ?_
  refine x_load (xv := .pointer (some ⟨b5, 0, none⟩)) (.agg #[.int .i64 p1_0, .slice a_p1_1 (p1_1).length c_p1_1]) rfl rfl rfl (reads_boxagg 0 [.int .i64 p1_0, .slice a_p1_1 (p1_1).length c_p1_1] tagg30 hb5 nn rfl) ?_
  obtain ⟨x16, hx, h⟩ := bind_some h
  have hpk : MS (w12).drew ([] ++ [[b5], [b3], M]) := hms.pick [some 0, some 1, some 2] _ rfl
  have hsb0 : ∀ x ∈ fl ([] ++ [[b5], [b3], M]), x ∈ fl [[b5], [b3], M] := pick_sub [some 0, some 1, some 2] _ rfl
  have hsb : ∀ x ∈ fl ([] ++ [(fl [[b5], [b3], M])]), x ∈ fl [[b5], [b3], M] := fun x hx => hsb0 x (fl_unfold x hx)
  have hcall := rollin_Valid_w a_p0_0 c_p0_0 p0_0 p0_1 p1_0 a_p1_1 c_p1_1 p1_1 _ (w12).drew (fl [[b5], [b3], M]) (MS.fold (P := []) hpk) (hs_p0_0.sub hsb) (hs_p1_1.sub hsb) hx
  refine x_call 33 #[] #[] [.agg #[.slice a_p0_0 (p0_0).length c_p0_0, .int .i64 p0_1], .agg #[.int .i64 p1_0, .slice a_p1_1 (p1_1).length c_p1_1]] _ rfl rfl rfl rfl hcall ?_
  rintro v w17 ⟨rfl, he17⟩
  clear hcall hx
  refine ⟨.inr he17, ?_⟩
  have hst := Stp.ext (ls := [[b5], [b3], M]) he17
  replace hs_p0_0 := hs_p0_0.step hst
  replace hs_p1_1 := hs_p1_1.step hst
  replace hb3 := he17.box hb3 nn
  replace hb5 := he17.box hb5 nn
  replace hf8_1 := hf8_1.step hst
  replace hf8_2 := hf8_2.step hst
  replace hf12_1 := hf12_1.step hst
  replace hf12_2 := hf12_2.step hst
  replace hms := hms.ev he17
  replace hev := hev.ext he17
  clear hpk hsb hsb0
  obtain ⟨x18, hx, h⟩ := bind_some h
  have hpk : MS w17 ([] ++ [[b5], [b3], M]) := hms.pick [some 0, some 1, some 2] _ rfl
  have hsb0 : ∀ x ∈ fl ([] ++ [[b5], [b3], M]), x ∈ fl [[b5], [b3], M] := pick_sub [some 0, some 1, some 2] _ rfl
  have hsb : ∀ x ∈ fl ([] ++ [(fl [[b5], [b3], M])]), x ∈ fl [[b5], [b3], M] := fun x hx => hsb0 x (fl_unfold x hx)
  have hcall := r14_Valid_w a_p0_0 c_p0_0 p0_0 p0_1 p1_0 a_p1_1 c_p1_1 p1_1 _ w17 (fl [[b5], [b3], M]) (MS.fold (P := []) hpk) (hs_p0_0.sub hsb) (hs_p1_1.sub hsb) hx
  refine x_call 37 #[] #[] [.agg #[.slice a_p0_0 (p0_0).length c_p0_0, .int .i64 p0_1], .agg #[.int .i64 p1_0, .slice a_p1_1 (p1_1).length c_p1_1]] _ rfl rfl rfl rfl hcall ?_
  rintro v w19 ⟨rfl, he19⟩
  clear hcall hx
  refine ⟨.inr he19, ?_⟩
  have hst := Stp.ext (ls := [[b5], [b3], M]) he19
  replace hs_p0_0 := hs_p0_0.step hst
  replace hs_p1_1 := hs_p1_1.step hst
  replace hb3 := he19.box hb3 nn
  replace hb5 := he19.box hb5 nn
  replace hf8_1 := hf8_1.step hst
  replace hf8_2 := hf8_2.step hst
  replace hf12_1 := hf12_1.step hst
  replace hf12_2 := hf12_2.step hst
  replace hms := hms.ev he19
  replace hev := hev.ext he19
  clear hpk hsb hsb0
  refine x_pure 2 [(43, .bool (x16 != x18)), (44, .bool (x16 != x18))] _ _ _ (by kernel_rfl) ?_
  refine x_split 44 (x16 != x18) rfl (fun hb => ?_) (fun hb => ?_)
  · replace h := ite_t hb h
    refine x_pure 16 [(45, undef), (46, undef), (47, undef), (48, undef), (49, .bool true), (50, .bool true), (51, undef), (52, undef), (53, undef), (54, undef), (55, .bool true), (56, .bool true), (57, undef), (58, undef), (59, undef), (60, .bool true)] _ _ _ (by kernel_rfl) ?_
    refine x_end rfl (k_then ?_)
    refine c_norm [(3, .pointer (some ⟨b3, 0, none⟩)), (4, .pointer (some ⟨b5, 0, none⟩)), (60, .bool true)] ⟨rfl, rfl, rfl, trivial⟩ (fun J => ?_)
    refine c_true rfl ?_
    refine c_seq (c_plain ?_)
    refine x_pure 1 [(6, .bool false)] _ _ _ (by kernel_rfl) ?_
    refine x_end rfl (k_then ?_)
    refine c_ret ?_
    refine k_then_ret ?_
    refine r_ret (r_vals [.bool false] ⟨rfl, trivial⟩ ?_)
    have hx := some_inj h
    subst hx
    have hmr : MS w19 [M] := hms.pick [some 2] _ rfl
    have hsu : ∀ x ∈ fl [M], x ∈ fl [[b5], [b3], M] := pick_sub [some 2] _ rfl
    exact ⟨rfl, hev⟩
  replace h := ite_f hb h
  refine x_pure 2 [(45, .slice a0_8 (x7.1).length c0_8), (46, .slice a0_12 (x11.1).length c0_12)] _ _ _ (by kernel_rfl) ?_
  obtain ⟨x20, hx, h⟩ := bind_some h
  have hpk : MS w19 ([] ++ [[b5], [b3], M]) := hms.pick [some 0, some 1, some 2] _ rfl
  have hsb0 : ∀ x ∈ fl ([] ++ [[b5], [b3], M]), x ∈ fl [[b5], [b3], M] := pick_sub [some 0, some 1, some 2] _ rfl
  have hsb : ∀ x ∈ fl ([] ++ [(fl [[b5], [b3], M])]), x ∈ fl [[b5], [b3], M] := fun x hx => hsb0 x (fl_unfold x hx)
  have hcall := gen_Lists_w a0_8 c0_8 x7.1 a0_12 c0_12 x11.1 _ w19 (fl [[b5], [b3], M]) (MS.fold (P := []) hpk) (hf8_1.sub hsb) (hf12_1.sub hsb) hx
  refine x_call 20 #[] #[] [.slice a0_8 (x7.1).length c0_8, .slice a0_12 (x11.1).length c0_12] _ rfl rfl rfl rfl hcall ?_
  rintro v w21 ⟨rfl, he21⟩
  clear hcall hx
  refine ⟨.inr he21, ?_⟩
  have hst := Stp.ext (ls := [[b5], [b3], M]) he21
  replace hs_p0_0 := hs_p0_0.step hst
  replace hs_p1_1 := hs_p1_1.step hst
  replace hb3 := he21.box hb3 nn
  replace hb5 := he21.box hb5 nn
  replace hf8_1 := hf8_1.step hst
  replace hf8_2 := hf8_2.step hst
  replace hf12_1 := hf12_1.step hst
  replace hf12_2 := hf12_2.step hst
  replace hms := hms.ev he21
  replace hev := hev.ext he21
  clear hpk hsb hsb0
  refine x_pure 3 [(48, .bool (!x20)), (49, .bool (!x20)), (50, .bool (!x20))] _ _ _ (by kernel_rfl) ?_
  refine x_split 50 (!x20) rfl (fun hb => ?_) (fun hb => ?_)
  · replace h := ite_t hb h
    refine x_pure 10 [(51, undef), (52, undef), (53, undef), (54, undef), (55, .bool true), (56, .bool true), (57, undef), (58, undef), (59, undef), (60, .bool true)] _ _ _ (by kernel_rfl) ?_
    refine x_end rfl (k_then ?_)
    refine c_norm [(3, .pointer (some ⟨b3, 0, none⟩)), (4, .pointer (some ⟨b5, 0, none⟩)), (60, .bool true)] ⟨rfl, rfl, rfl, trivial⟩ (fun J => ?_)
    refine c_true rfl ?_
    refine c_seq (c_plain ?_)
    refine x_pure 1 [(6, .bool false)] _ _ _ (by kernel_rfl) ?_
    refine x_end rfl (k_then ?_)
    refine c_ret ?_
    refine k_then_ret ?_
    refine r_ret (r_vals [.bool false] ⟨rfl, trivial⟩ ?_)
    have hx := some_inj h
    subst hx
    have hmr : MS w21 [M] := hms.pick [some 2] _ rfl
    have hsu : ∀ x ∈ fl [M], x ∈ fl [[b5], [b3], M] := pick_sub [some 2] _ rfl
    exact ⟨rfl, hev⟩
  replace h := ite_f hb h
  refine x_pure 2 [(51, .slice a3_8 (x7.2.1).length c3_8), (52, .slice a3_12 (x11.2.1).length c3_12)] _ _ _ (by kernel_rfl) ?_
  obtain ⟨x22, hx, h⟩ := bind_some h
  have hpk : MS w21 ([] ++ [[b5], [b3], M]) := hms.pick [some 0, some 1, some 2] _ rfl
  have hsb0 : ∀ x ∈ fl ([] ++ [[b5], [b3], M]), x ∈ fl [[b5], [b3], M] := pick_sub [some 0, some 1, some 2] _ rfl
  have hsb : ∀ x ∈ fl ([] ++ [(fl [[b5], [b3], M])]), x ∈ fl [[b5], [b3], M] := fun x hx => hsb0 x (fl_unfold x hx)
  have hcall := gen_Lists_w a3_8 c3_8 x7.2.1 a3_12 c3_12 x11.2.1 _ w21 (fl [[b5], [b3], M]) (MS.fold (P := []) hpk) (hf8_2.sub hsb) (hf12_2.sub hsb) hx
  refine x_call 20 #[] #[] [.slice a3_8 (x7.2.1).length c3_8, .slice a3_12 (x11.2.1).length c3_12] _ rfl rfl rfl rfl hcall ?_
  rintro v w23 ⟨rfl, he23⟩
  clear hcall hx
  refine ⟨.inr he23, ?_⟩
  have hst := Stp.ext (ls := [[b5], [b3], M]) he23
  replace hs_p0_0 := hs_p0_0.step hst
  replace hs_p1_1 := hs_p1_1.step hst
  replace hb3 := he23.box hb3 nn
  replace hb5 := he23.box hb5 nn
  replace hf8_1 := hf8_1.step hst
  replace hf8_2 := hf8_2.step hst
  replace hf12_1 := hf12_1.step hst
  replace hf12_2 := hf12_2.step hst
  replace hms := hms.ev he23
  replace hev := hev.ext he23
  clear hpk hsb hsb0
  refine x_pure 3 [(54, .bool (!x22)), (55, .bool (!x22)), (56, .bool (!x22))] _ _ _ (by kernel_rfl) ?_
  refine x_split 56 (!x22) rfl (fun hb => ?_) (fun hb => ?_)
  · replace h := ite_t hb h
    refine x_pure 4 [(57, undef), (58, undef), (59, undef), (60, .bool true)] _ _ _ (by kernel_rfl) ?_
    refine x_end rfl (k_then ?_)
    refine c_norm [(3, .pointer (some ⟨b3, 0, none⟩)), (4, .pointer (some ⟨b5, 0, none⟩)), (60, .bool true)] ⟨rfl, rfl, rfl, trivial⟩ (fun J => ?_)
    refine c_true rfl ?_
    refine c_seq (c_plain ?_)
    refine x_pure 1 [(6, .bool false)] _ _ _ (by kernel_rfl) ?_
    refine x_end rfl (k_then ?_)
    refine c_ret ?_
    refine k_then_ret ?_
    refine r_ret (r_vals [.bool false] ⟨rfl, trivial⟩ ?_)
    have hx := some_inj h
    subst hx
    have hmr : MS w23 [M] := hms.pick [some 2] _ rfl
    have hsu : ∀ x ∈ fl [M], x ∈ fl [[b5], [b3], M] := pick_sub [some 2] _ rfl
    exact ⟨rfl, hev⟩
  replace h := ite_f hb h
  refine x_pure 4 [(57, .int .i64 x7.2.2), (58, .int .i64 x11.2.2), (59, .bool (x7.2.2 != x11.2.2)), (60, .bool (x7.2.2 != x11.2.2))] _ _ _ (by kernel_rfl) ?_
  refine x_end rfl (k_then ?_)
  refine c_norm [(3, .pointer (some ⟨b3, 0, none⟩)), (4, .pointer (some ⟨b5, 0, none⟩)), (60, .bool (x7.2.2 != x11.2.2))] ⟨rfl, rfl, rfl, trivial⟩ (fun J => ?_)
  refine c_cond (x7.2.2 != x11.2.2) rfl (fun hb => ?_) (fun hb => ?_)
  · replace h := ite_t hb h
    refine c_seq (c_plain ?_)
    refine x_pure 1 [(6, .bool false)] _ _ _ (by kernel_rfl) ?_
    refine x_end rfl (k_then ?_)
    refine c_ret ?_
    refine k_then_ret ?_
    refine r_ret (r_vals [.bool false] ⟨rfl, trivial⟩ ?_)
    have hx := some_inj h
    subst hx
    have hmr : MS w23 [M] := hms.pick [some 2] _ rfl
    have hsu : ∀ x ∈ fl [M], x ∈ fl [[b5], [b3], M] := pick_sub [some 2] _ rfl
    exact ⟨rfl, hev⟩
  replace h := ite_f hb h
  refine c_skip ?_
  refine k_then ?_
  refine c_seq (c_plain ?_)
  refine x_load (xv := .pointer (some ⟨b3, 0, none⟩)) (.agg #[.slice a_p0_0 (p0_0).length c_p0_0, .int .i64 p0_1]) rfl rfl rfl (reads_boxagg 0 [.slice a_p0_0 (p0_0).length c_p0_0, .int .i64 p0_1] tagg27 hb3 nn rfl) ?_
  refine x_load (xv := .pointer (some ⟨b5, 0, none⟩)) (.agg #[.int .i64 p1_0, .slice a_p1_1 (p1_1).length c_p1_1]) rfl rfl rfl (reads_boxagg 0 [.int .i64 p1_0, .slice a_p1_1 (p1_1).length c_p1_1] tagg30 hb5 nn rfl) ?_
  obtain ⟨x24, hx, h⟩ := bind_some h
  have hpk : MS w23 ([] ++ [[b5], [b3], M]) := hms.pick [some 0, some 1, some 2] _ rfl
  have hsb0 : ∀ x ∈ fl ([] ++ [[b5], [b3], M]), x ∈ fl [[b5], [b3], M] := pick_sub [some 0, some 1, some 2] _ rfl
  have hsb : ∀ x ∈ fl ([] ++ [(fl [[b5], [b3], M])]), x ∈ fl [[b5], [b3], M] := fun x hx => hsb0 x (fl_unfold x hx)
  have hcall := rollin_Run_w a_p0_0 c_p0_0 p0_0 p0_1 p1_0 a_p1_1 c_p1_1 p1_1 _ w23 (fl [[b5], [b3], M]) (MS.fold (P := []) hpk) (hs_p0_0.sub hsb) (hs_p1_1.sub hsb) hx
  refine x_call 14 #[] #[] [.agg #[.slice a_p0_0 (p0_0).length c_p0_0, .int .i64 p0_1], .agg #[.int .i64 p1_0, .slice a_p1_1 (p1_1).length c_p1_1]] _ rfl rfl rfl rfl hcall ?_
  rintro v w25 ⟨a0_25, c0_25, B2_25, rfl, he25, hmn25, hfn25, hf25_1⟩
  clear hcall hx
  refine ⟨.inl rfl, ?_⟩
  have hpk2 : MS w23 ([] ++ [[b5], [b3], M]) := hms.pick [some 0, some 1, some 2] _ rfl
  have hsb2 : ∀ x ∈ fl ([] ++ [[b5], [b3], M]), x ∈ fl [[b5], [b3], M] := pick_sub [some 0, some 1, some 2] _ rfl
  have hst0 := Stp.call (LS := [[b5], [b3], M]) (res := [B2_25]) (par := []) (R := [[b5], [b3], M]) he25 (fun b hb => hsb2 b (fl_left' (P := []) b hb)) hfn25 (NP.init _ _) (fun x hx => hsb2 x (fl_right' (P := []) x hx))
  have hsn : ∀ x ∈ fl [B2_25, [b5], [b3], M], x ∈ fl ([B2_25] ++ ([] ++ [[b5], [b3], M])) := pick_sub [some 0, some 1, some 2, some 3] _ rfl
  have hst := hst0.res hsn
  replace hs_p0_0 := hs_p0_0.step hst
  replace hs_p1_1 := hs_p1_1.step hst
  replace hb3 := he25.box hb3 ((MS.outs (P := []) hpk2 1 rfl) _ (List.mem_singleton.2 rfl))
  replace hb5 := he25.box hb5 ((MS.outs (P := []) hpk2 0 rfl) _ (List.mem_singleton.2 rfl))
  replace hms : MS w25 [B2_25, [b5], [b3], M] := (MS.call (P := []) (R := [[b5], [b3], M]) (res := [B2_25]) (par := []) hpk2 he25 hmn25 hfn25 (NP.init _ _)).pick [some 0, some 1, some 2, some 3] _ rfl
  have hfr2 : FR w.heap.size [B2_25, [b5], [b3]] := (FR.cons (fun b hb => Nat.le_trans hev.size (hfn25.at 0 rfl b hb)) (FR.cons (hfr.at 0 rfl) (FR.cons (hfr.at 1 rfl) (FR.nil _))))
  replace hev := hev.ext he25
  replace hfr := hfr2
  clear hfr2
  clear hpk hsb hsb0 hpk2 hsb2 hst0 hsn hst
  have hpk : MS w25 [[b5], [b3], M] := hms.pick [some 1, some 2, some 3] _ rfl
  have hsu : ∀ x ∈ fl [[b5], [b3], M], x ∈ fl [B2_25, [b5], [b3], M] := pick_sub [some 1, some 2, some 3] _ rfl
  replace hs_p0_0 := hs_p0_0.sub hsu
  replace hs_p1_1 := hs_p1_1.sub hsu
  replace hf25_1 := hf25_1.ro (plain_int _) (pick_out hms 0 rfl [some 1, some 2, some 3] [[b5], [b3], M] rfl rfl)
  replace hms := hpk
  replace hfr : FR w.heap.size [[b5], [b3]] := hfr.pick [some 1, some 2] _ rfl
  clear hpk hsu
  refine x_pure 3 [(61, .tuple #[.agg #[.slice a0_25 (x24.1.1).length c0_25, .int .i64 x24.1.2], .int .i64 x24.2]), (65, .agg #[.slice a0_25 (x24.1.1).length c0_25, .int .i64 x24.1.2]), (66, .int .i64 x24.2)] _ _ _ (by kernel_rfl) ?_
  refine x_alloc (z := .agg #[.slice none 0 0, .int .i64 0]) rfl rfl (by kernel_rfl) (fun b27 w27 hq27 hb27 he27 _ => ?_)
  replace hb27 : w27.heap[b27]? = some (.cells #[.slice none 0 0, .int .i64 0] 34 (0, 0)) := hb27
  refine ⟨.inl rfl, ?_⟩
  have hst := Stp.box (ls := [[b5], [b3], M]) he27 hq27
  replace hs_p0_0 := hs_p0_0.step hst
  replace hs_p1_1 := hs_p1_1.step hst
  replace hb3 := he27.box hb3 nn
  replace hb5 := he27.box hb5 nn
  replace hf25_1 := hf25_1.step hst
  replace hms := hms.box he27 hq27 hb27
  replace hfr := hfr.box hev.size hq27
  replace hev := hev.ext he27
  obtain ⟨w29, hr29, hb29, he29⟩ := store_boxagg 0 [.slice a0_25 (x24.1.1).length c0_25, .int .i64 x24.1.2] #[.slice a0_25 (x24.1.1).length c0_25, .int .i64 x24.1.2] tagg34 hb27 rfl rfl rfl
  refine x_store w29 (xv := .pointer (some ⟨b27, 0, none⟩)) (yv := .agg #[.slice a0_25 (x24.1.1).length c0_25, .int .i64 x24.1.2]) rfl rfl rfl rfl hr29 ?_
  refine ⟨.inl rfl, ?_⟩
  have hst := Stp.ev' (ls := [[b27], [b5], [b3], M]) he29 (mem_flat 0 rfl)
  replace hs_p0_0 := hs_p0_0.step hst
  replace hs_p1_1 := hs_p1_1.step hst
  replace hb3 := he29.box hb3 (hms.apart 2 0 rfl rfl rfl _ (List.mem_singleton.2 rfl))
  replace hb5 := he29.box hb5 (hms.apart 1 0 rfl rfl rfl _ (List.mem_singleton.2 rfl))
  replace hf25_1 := hf25_1.step hst
  replace hms := hms.ev he29
  replace hev := hev.then he29 (fun b hb => .inr (hfr.at 0 rfl b hb))
  replace hb27 := hb29
  refine x_pure 1 [(9, .int .i64 x24.2)] _ _ _ (by kernel_rfl) ?_
  refine x_end rfl (k_then ?_)
  refine c_seq (c_plain ?_)
  refine x_load (xv := .pointer (some ⟨b3, 0, none⟩)) (.agg #[.slice a_p0_0 (p0_0).length c_p0_0, .int .i64 p0_1]) rfl rfl rfl (reads_boxagg 0 [.slice a_p0_0 (p0_0).length c_p0_0, .int .i64 p0_1] tagg27 hb3 nn rfl) ?_
  refine x_load (xv := .pointer (some ⟨b5, 0, none⟩)) (.agg #[.int .i64 p1_0, .slice a_p1_1 (p1_1).length c_p1_1]) rfl rfl rfl (reads_boxagg 0 [.int .i64 p1_0, .slice a_p1_1 (p1_1).length c_p1_1] tagg30 hb5 nn rfl) ?_
  obtain ⟨x30, hx, h⟩ := bind_some h
  have hpk : MS w29 ([] ++ [[b27], [b5], [b3], M]) := hms.pick [some 0, some 1, some 2, some 3] _ rfl
  have hsb0 : ∀ x ∈ fl ([] ++ [[b27], [b5], [b3], M]), x ∈ fl [[b27], [b5], [b3], M] := pick_sub [some 0, some 1, some 2, some 3] _ rfl
  have hsb : ∀ x ∈ fl ([] ++ [(fl [[b27], [b5], [b3], M])]), x ∈ fl [[b27], [b5], [b3], M] := fun x hx => hsb0 x (fl_unfold x hx)
  have hcall := r14_Run_w a_p0_0 c_p0_0 p0_0 p0_1 p1_0 a_p1_1 c_p1_1 p1_1 _ w29 (fl [[b27], [b5], [b3], M]) (MS.fold (P := []) hpk) (hs_p0_0.sub hsb) (hs_p1_1.sub hsb) hx
  refine x_call 38 #[] #[] [.agg #[.slice a_p0_0 (p0_0).length c_p0_0, .int .i64 p0_1], .agg #[.int .i64 p1_0, .slice a_p1_1 (p1_1).length c_p1_1]] _ rfl rfl rfl rfl hcall ?_
  rintro v w31 ⟨a0_31, c0_31, B2_31, rfl, he31, hmn31, hfn31, hf31_1⟩
  clear hcall hx
  refine ⟨.inl rfl, ?_⟩
  have hpk2 : MS w29 ([] ++ [[b27], [b5], [b3], M]) := hms.pick [some 0, some 1, some 2, some 3] _ rfl
  have hsb2 : ∀ x ∈ fl ([] ++ [[b27], [b5], [b3], M]), x ∈ fl [[b27], [b5], [b3], M] := pick_sub [some 0, some 1, some 2, some 3] _ rfl
  have hst0 := Stp.call (LS := [[b27], [b5], [b3], M]) (res := [B2_31]) (par := []) (R := [[b27], [b5], [b3], M]) he31 (fun b hb => hsb2 b (fl_left' (P := []) b hb)) hfn31 (NP.init _ _) (fun x hx => hsb2 x (fl_right' (P := []) x hx))
  have hsn : ∀ x ∈ fl [B2_31, [b27], [b5], [b3], M], x ∈ fl ([B2_31] ++ ([] ++ [[b27], [b5], [b3], M])) := pick_sub [some 0, some 1, some 2, some 3, some 4] _ rfl
  have hst := hst0.res hsn
  replace hs_p0_0 := hs_p0_0.step hst
  replace hs_p1_1 := hs_p1_1.step hst
  replace hb3 := he31.box hb3 ((MS.outs (P := []) hpk2 2 rfl) _ (List.mem_singleton.2 rfl))
  replace hb5 := he31.box hb5 ((MS.outs (P := []) hpk2 1 rfl) _ (List.mem_singleton.2 rfl))
  replace hf25_1 := hf25_1.step hst
  replace hb27 := he31.box hb27 ((MS.outs (P := []) hpk2 0 rfl) _ (List.mem_singleton.2 rfl))
  replace hms : MS w31 [B2_31, [b27], [b5], [b3], M] := (MS.call (P := []) (R := [[b27], [b5], [b3], M]) (res := [B2_31]) (par := []) hpk2 he31 hmn31 hfn31 (NP.init _ _)).pick [some 0, some 1, some 2, some 3, some 4] _ rfl
  have hfr2 : FR w.heap.size [B2_31, [b27], [b5], [b3]] := (FR.cons (fun b hb => Nat.le_trans hev.size (hfn31.at 0 rfl b hb)) (FR.cons (hfr.at 0 rfl) (FR.cons (hfr.at 1 rfl) (FR.cons (hfr.at 2 rfl) (FR.nil _)))))
  replace hev := hev.ext he31
  replace hfr := hfr2
  clear hfr2
  clear hpk hsb hsb0 hpk2 hsb2 hst0 hsn hst
  have hpk : MS w31 [[b27], [b5], [b3], M] := hms.pick [some 1, some 2, some 3, some 4] _ rfl
  have hsu : ∀ x ∈ fl [[b27], [b5], [b3], M], x ∈ fl [B2_31, [b27], [b5], [b3], M] := pick_sub [some 1, some 2, some 3, some 4] _ rfl
  replace hs_p0_0 := hs_p0_0.sub hsu
  replace hs_p1_1 := hs_p1_1.sub hsu
  replace hf25_1 := hf25_1.sub hsu
  replace hf31_1 := hf31_1.ro (plain_int _) (pick_out hms 0 rfl [some 1, some 2, some 3, some 4] [[b27], [b5], [b3], M] rfl rfl)
  replace hms := hpk
  replace hfr : FR w.heap.size [[b27], [b5], [b3]] := hfr.pick [some 1, some 2, some 3] _ rfl
  clear hpk hsu
  refine x_pure 3 [(67, .tuple #[.agg #[.slice a0_31 (x30.1.1).length c0_31, .int .i64 x30.1.2], .int .i64 x30.2]), (71, .agg #[.slice a0_31 (x30.1.1).length c0_31, .int .i64 x30.1.2]), (72, .int .i64 x30.2)] _ _ _ (by kernel_rfl) ?_
  refine x_alloc (z := .agg #[.slice none 0 0, .int .i64 0]) rfl rfl (by kernel_rfl) (fun b33 w33 hq33 hb33 he33 _ => ?_)
  replace hb33 : w33.heap[b33]? = some (.cells #[.slice none 0 0, .int .i64 0] 34 (0, 0)) := hb33
  refine ⟨.inl rfl, ?_⟩
  have hst := Stp.box (ls := [[b27], [b5], [b3], M]) he33 hq33
  replace hs_p0_0 := hs_p0_0.step hst
  replace hs_p1_1 := hs_p1_1.step hst
  replace hb3 := he33.box hb3 nn
  replace hb5 := he33.box hb5 nn
  replace hf25_1 := hf25_1.step hst
  replace hb27 := he33.box hb27 nn
  replace hf31_1 := hf31_1.step hst
  replace hms := hms.box he33 hq33 hb33
  replace hfr := hfr.box hev.size hq33
  replace hev := hev.ext he33
  obtain ⟨w35, hr35, hb35, he35⟩ := store_boxagg 0 [.slice a0_31 (x30.1.1).length c0_31, .int .i64 x30.1.2] #[.slice a0_31 (x30.1.1).length c0_31, .int .i64 x30.1.2] tagg34 hb33 rfl rfl rfl
  refine x_store w35 (xv := .pointer (some ⟨b33, 0, none⟩)) (yv := .agg #[.slice a0_31 (x30.1.1).length c0_31, .int .i64 x30.1.2]) rfl rfl rfl rfl hr35 ?_
  refine ⟨.inl rfl, ?_⟩
  have hst := Stp.ev' (ls := [[b33], [b27], [b5], [b3], M]) he35 (mem_flat 0 rfl)
  replace hs_p0_0 := hs_p0_0.step hst
  replace hs_p1_1 := hs_p1_1.step hst
  replace hb3 := he35.box hb3 (hms.apart 3 0 rfl rfl rfl _ (List.mem_singleton.2 rfl))
  replace hb5 := he35.box hb5 (hms.apart 2 0 rfl rfl rfl _ (List.mem_singleton.2 rfl))
  replace hf25_1 := hf25_1.step hst
  replace hb27 := he35.box hb27 (hms.apart 1 0 rfl rfl rfl _ (List.mem_singleton.2 rfl))
  replace hf31_1 := hf31_1.step hst
  replace hms := hms.ev he35
  replace hev := hev.then he35 (fun b hb => .inr (hfr.at 0 rfl b hb))
  replace hb33 := hb35
  refine x_pure 1 [(12, .int .i64 x30.2)] _ _ _ (by kernel_rfl) ?_
  refine x_end rfl (k_then ?_)
  refine c_norm [(3, .pointer (some ⟨b3, 0, none⟩)), (4, .pointer (some ⟨b5, 0, none⟩)), (9, .int .i64 x24.2), (12, .int .i64 x30.2), (13, .pointer (some ⟨b27, 0, none⟩)), (14, .pointer (some ⟨b33, 0, none⟩))] ⟨rfl, rfl, rfl, rfl, rfl, rfl, trivial⟩ (fun J => ?_)
  refine c_seq (c_plain ?_)
  refine x_load (xv := .pointer (some ⟨b3, 0, none⟩)) (.agg #[.slice a_p0_0 (p0_0).length c_p0_0, .int .i64 p0_1]) rfl rfl rfl (reads_boxagg 0 [.slice a_p0_0 (p0_0).length c_p0_0, .int .i64 p0_1] tagg27 hb3 nn rfl) ?_
  refine x_load (xv := .pointer (some ⟨b5, 0, none⟩)) (.agg #[.int .i64 p1_0, .slice a_p1_1 (p1_1).length c_p1_1]) rfl rfl rfl (reads_boxagg 0 [.int .i64 p1_0, .slice a_p1_1 (p1_1).length c_p1_1] tagg30 hb5 nn rfl) ?_
  obtain ⟨x36, hx, h⟩ := bind_some h
  have hpk : MS w35 ([] ++ [[b33], [b27], [b5], [b3], M]) := hms.pick [some 0, some 1, some 2, some 3, some 4] _ rfl
  have hsb0 : ∀ x ∈ fl ([] ++ [[b33], [b27], [b5], [b3], M]), x ∈ fl [[b33], [b27], [b5], [b3], M] := pick_sub [some 0, some 1, some 2, some 3, some 4] _ rfl
  have hsb : ∀ x ∈ fl ([] ++ [(fl [[b33], [b27], [b5], [b3], M])]), x ∈ fl [[b33], [b27], [b5], [b3], M] := fun x hx => hsb0 x (fl_unfold x hx)
  have hcall := rollin_Loads_w a_p0_0 c_p0_0 p0_0 p0_1 p1_0 a_p1_1 c_p1_1 p1_1 _ w35 (fl [[b33], [b27], [b5], [b3], M]) (MS.fold (P := []) hpk) (hs_p0_0.sub hsb) (hs_p1_1.sub hsb) hx
  refine x_call 17 #[] #[] [.agg #[.slice a_p0_0 (p0_0).length c_p0_0, .int .i64 p0_1], .agg #[.int .i64 p1_0, .slice a_p1_1 (p1_1).length c_p1_1]] _ rfl rfl rfl rfl hcall ?_
  rintro v w37 ⟨a0_37, c0_37, rfl, he37, hmn37, hfn37, hf37_1⟩
  clear hcall hx
  refine ⟨.inl rfl, ?_⟩
  have hpk2 : MS w35 ([] ++ [[b33], [b27], [b5], [b3], M]) := hms.pick [some 0, some 1, some 2, some 3, some 4] _ rfl
  have hsb2 : ∀ x ∈ fl ([] ++ [[b33], [b27], [b5], [b3], M]), x ∈ fl [[b33], [b27], [b5], [b3], M] := pick_sub [some 0, some 1, some 2, some 3, some 4] _ rfl
  have hst0 := Stp.call (LS := [[b33], [b27], [b5], [b3], M]) (res := [blk a0_37]) (par := []) (R := [[b33], [b27], [b5], [b3], M]) he37 (fun b hb => hsb2 b (fl_left' (P := []) b hb)) hfn37 (NP.init _ _) (fun x hx => hsb2 x (fl_right' (P := []) x hx))
  have hsn : ∀ x ∈ fl [blk a0_37, [b33], [b27], [b5], [b3], M], x ∈ fl ([blk a0_37] ++ ([] ++ [[b33], [b27], [b5], [b3], M])) := pick_sub [some 0, some 1, some 2, some 3, some 4, some 5] _ rfl
  have hst := hst0.res hsn
  replace hs_p0_0 := hs_p0_0.step hst
  replace hs_p1_1 := hs_p1_1.step hst
  replace hb3 := he37.box hb3 ((MS.outs (P := []) hpk2 3 rfl) _ (List.mem_singleton.2 rfl))
  replace hb5 := he37.box hb5 ((MS.outs (P := []) hpk2 2 rfl) _ (List.mem_singleton.2 rfl))
  replace hf25_1 := hf25_1.step hst
  replace hb27 := he37.box hb27 ((MS.outs (P := []) hpk2 1 rfl) _ (List.mem_singleton.2 rfl))
  replace hf31_1 := hf31_1.step hst
  replace hb33 := he37.box hb33 ((MS.outs (P := []) hpk2 0 rfl) _ (List.mem_singleton.2 rfl))
  replace hms : MS w37 [blk a0_37, [b33], [b27], [b5], [b3], M] := (MS.call (P := []) (R := [[b33], [b27], [b5], [b3], M]) (res := [blk a0_37]) (par := []) hpk2 he37 hmn37 hfn37 (NP.init _ _)).pick [some 0, some 1, some 2, some 3, some 4, some 5] _ rfl
  have hfr2 : FR w.heap.size [blk a0_37, [b33], [b27], [b5], [b3]] := (FR.cons (fun b hb => Nat.le_trans hev.size (hfn37.at 0 rfl b hb)) (FR.cons (hfr.at 0 rfl) (FR.cons (hfr.at 1 rfl) (FR.cons (hfr.at 2 rfl) (FR.cons (hfr.at 3 rfl) (FR.nil _))))))
  replace hev := hev.ext he37
  replace hfr := hfr2
  clear hfr2
  replace hf37_1 := OwnS.plain (M' := fl [blk a0_37, [b33], [b27], [b5], [b3], M]) (plain_int _) hf37_1
  clear hpk hsb hsb0 hpk2 hsb2 hst0 hsn hst
  have hpk : MS w37 [[b33], [b27], [b5], [b3], M] := hms.pick [some 1, some 2, some 3, some 4, some 5] _ rfl
  have hsu : ∀ x ∈ fl [[b33], [b27], [b5], [b3], M], x ∈ fl [blk a0_37, [b33], [b27], [b5], [b3], M] := pick_sub [some 1, some 2, some 3, some 4, some 5] _ rfl
  replace hs_p0_0 := hs_p0_0.sub hsu
  replace hs_p1_1 := hs_p1_1.sub hsu
  replace hf25_1 := hf25_1.sub hsu
  replace hf31_1 := hf31_1.sub hsu
  replace hf37_1 := hf37_1.ro hsu (pick_out hms 0 rfl [some 1, some 2, some 3, some 4, some 5] [[b33], [b27], [b5], [b3], M] rfl rfl)
  replace hms := hpk
  replace hfr : FR w.heap.size [[b33], [b27], [b5], [b3]] := hfr.pick [some 1, some 2, some 3, some 4] _ rfl
  clear hpk hsu
  refine x_pure 5 [(73, .tuple #[.slice a0_37 (x36.1).length c0_37, .int .i64 x36.2]), (77, .slice a0_37 (x36.1).length c0_37), (78, .int .i64 x36.2), (15, .slice a0_37 (x36.1).length c0_37), (16, .int .i64 x36.2)] _ _ _ (by kernel_rfl) ?_
  refine x_end rfl (k_then ?_)
  refine c_seq (c_plain ?_)
  refine x_load (xv := .pointer (some ⟨b3, 0, none⟩)) (.agg #[.slice a_p0_0 (p0_0).length c_p0_0, .int .i64 p0_1]) rfl rfl rfl (reads_boxagg 0 [.slice a_p0_0 (p0_0).length c_p0_0, .int .i64 p0_1] tagg27 hb3 nn rfl) ?_
  refine x_load (xv := .pointer (some ⟨b5, 0, none⟩)) (.agg #[.int .i64 p1_0, .slice a_p1_1 (p1_1).length c_p1_1]) rfl rfl rfl (reads_boxagg 0 [.int .i64 p1_0, .slice a_p1_1 (p1_1).length c_p1_1] tagg30 hb5 nn rfl) ?_
  obtain ⟨x39, hx, h⟩ := bind_some h
  have hpk : MS w37 ([] ++ [[b33], [b27], [b5], [b3], M]) := hms.pick [some 0, some 1, some 2, some 3, some 4] _ rfl
  have hsb0 : ∀ x ∈ fl ([] ++ [[b33], [b27], [b5], [b3], M]), x ∈ fl [[b33], [b27], [b5], [b3], M] := pick_sub [some 0, some 1, some 2, some 3, some 4] _ rfl
  have hsb : ∀ x ∈ fl ([] ++ [(fl [[b33], [b27], [b5], [b3], M])]), x ∈ fl [[b33], [b27], [b5], [b3], M] := fun x hx => hsb0 x (fl_unfold x hx)
  have hcall := r14_Loads_w a_p0_0 c_p0_0 p0_0 p0_1 p1_0 a_p1_1 c_p1_1 p1_1 _ w37 (fl [[b33], [b27], [b5], [b3], M]) (MS.fold (P := []) hpk) (hs_p0_0.sub hsb) (hs_p1_1.sub hsb) hx
  refine x_call 39 #[] #[] [.agg #[.slice a_p0_0 (p0_0).length c_p0_0, .int .i64 p0_1], .agg #[.int .i64 p1_0, .slice a_p1_1 (p1_1).length c_p1_1]] _ rfl rfl rfl rfl hcall ?_
  rintro v w40 ⟨a0_40, c0_40, rfl, he40, hmn40, hfn40, hf40_1⟩
  clear hcall hx
  refine ⟨.inl rfl, ?_⟩
  have hpk2 : MS w37 ([] ++ [[b33], [b27], [b5], [b3], M]) := hms.pick [some 0, some 1, some 2, some 3, some 4] _ rfl
  have hsb2 : ∀ x ∈ fl ([] ++ [[b33], [b27], [b5], [b3], M]), x ∈ fl [[b33], [b27], [b5], [b3], M] := pick_sub [some 0, some 1, some 2, some 3, some 4] _ rfl
  have hst0 := Stp.call (LS := [[b33], [b27], [b5], [b3], M]) (res := [blk a0_40]) (par := []) (R := [[b33], [b27], [b5], [b3], M]) he40 (fun b hb => hsb2 b (fl_left' (P := []) b hb)) hfn40 (NP.init _ _) (fun x hx => hsb2 x (fl_right' (P := []) x hx))
  have hsn : ∀ x ∈ fl [blk a0_40, [b33], [b27], [b5], [b3], M], x ∈ fl ([blk a0_40] ++ ([] ++ [[b33], [b27], [b5], [b3], M])) := pick_sub [some 0, some 1, some 2, some 3, some 4, some 5] _ rfl
  have hst := hst0.res hsn
  replace hs_p0_0 := hs_p0_0.step hst
  replace hs_p1_1 := hs_p1_1.step hst
  replace hb3 := he40.box hb3 ((MS.outs (P := []) hpk2 3 rfl) _ (List.mem_singleton.2 rfl))
  replace hb5 := he40.box hb5 ((MS.outs (P := []) hpk2 2 rfl) _ (List.mem_singleton.2 rfl))
  replace hf25_1 := hf25_1.step hst
  replace hb27 := he40.box hb27 ((MS.outs (P := []) hpk2 1 rfl) _ (List.mem_singleton.2 rfl))
  replace hf31_1 := hf31_1.step hst
  replace hb33 := he40.box hb33 ((MS.outs (P := []) hpk2 0 rfl) _ (List.mem_singleton.2 rfl))
  replace hf37_1 := hf37_1.step hst
  replace hms : MS w40 [blk a0_40, [b33], [b27], [b5], [b3], M] := (MS.call (P := []) (R := [[b33], [b27], [b5], [b3], M]) (res := [blk a0_40]) (par := []) hpk2 he40 hmn40 hfn40 (NP.init _ _)).pick [some 0, some 1, some 2, some 3, some 4, some 5] _ rfl
  have hfr2 : FR w.heap.size [blk a0_40, [b33], [b27], [b5], [b3]] := (FR.cons (fun b hb => Nat.le_trans hev.size (hfn40.at 0 rfl b hb)) (FR.cons (hfr.at 0 rfl) (FR.cons (hfr.at 1 rfl) (FR.cons (hfr.at 2 rfl) (FR.cons (hfr.at 3 rfl) (FR.nil _))))))
  replace hev := hev.ext he40
  replace hfr := hfr2
  clear hfr2
  replace hf40_1 := OwnS.plain (M' := fl [blk a0_40, [b33], [b27], [b5], [b3], M]) (plain_int _) hf40_1
  clear hpk hsb hsb0 hpk2 hsb2 hst0 hsn hst
  have hpk : MS w40 [[b33], [b27], [b5], [b3], M] := hms.pick [some 1, some 2, some 3, some 4, some 5] _ rfl
  have hsu : ∀ x ∈ fl [[b33], [b27], [b5], [b3], M], x ∈ fl [blk a0_40, [b33], [b27], [b5], [b3], M] := pick_sub [some 1, some 2, some 3, some 4, some 5] _ rfl
  replace hs_p0_0 := hs_p0_0.sub hsu
  replace hs_p1_1 := hs_p1_1.sub hsu
  replace hf25_1 := hf25_1.sub hsu
  replace hf31_1 := hf31_1.sub hsu
  replace hf37_1 := hf37_1.sub hsu
  replace hf40_1 := hf40_1.ro hsu (pick_out hms 0 rfl [some 1, some 2, some 3, some 4, some 5] [[b33], [b27], [b5], [b3], M] rfl rfl)
  replace hms := hpk
  replace hfr : FR w.heap.size [[b33], [b27], [b5], [b3]] := hfr.pick [some 1, some 2, some 3, some 4] _ rfl
  clear hpk hsu
  refine x_pure 5 [(79, .tuple #[.slice a0_40 (x39.1).length c0_40, .int .i64 x39.2]), (83, .slice a0_40 (x39.1).length c0_40), (84, .int .i64 x39.2), (17, .slice a0_40 (x39.1).length c0_40), (18, .int .i64 x39.2)] _ _ _ (by kernel_rfl) ?_
  refine x_end rfl (k_then ?_)
  refine c_norm [(3, .pointer (some ⟨b3, 0, none⟩)), (4, .pointer (some ⟨b5, 0, none⟩)), (9, .int .i64 x24.2), (12, .int .i64 x30.2), (13, .pointer (some ⟨b27, 0, none⟩)), (14, .pointer (some ⟨b33, 0, none⟩)), (15, .slice a0_37 (x36.1).length c0_37), (16, .int .i64 x36.2), (17, .slice a0_40 (x39.1).length c0_40), (18, .int .i64 x39.2)] ⟨rfl, rfl, rfl, rfl, rfl, rfl, rfl, rfl, rfl, rfl, trivial⟩ (fun J => ?_)
  refine c_seq ?_
  refine c_seq (c_plain ?_)
  refine x_fieldAddr (xv := .pointer (some ⟨b27, 0, none⟩)) (.pointer (some ⟨b27, 0, none⟩)) rfl rfl rfl (reads_field tfld34_0 _ _) ?_
  refine x_load (xv := .pointer (some ⟨b27, 0, none⟩)) (.slice a0_25 (x24.1.1).length c0_25) rfl rfl rfl (reads_box tcell32 hb27 nn 0 _ rfl) ?_
  refine x_fieldAddr (xv := .pointer (some ⟨b33, 0, none⟩)) (.pointer (some ⟨b33, 0, none⟩)) rfl rfl rfl (reads_field tfld34_0 _ _) ?_
  refine x_load (xv := .pointer (some ⟨b33, 0, none⟩)) (.slice a0_31 (x30.1.1).length c0_31) rfl rfl rfl (reads_box tcell32 hb33 nn 0 _ rfl) ?_
  obtain ⟨x43, hx, h⟩ := bind_some h
  have hpk : MS w40 ([] ++ [[b33], [b27], [b5], [b3], M]) := hms.pick [some 0, some 1, some 2, some 3, some 4] _ rfl
  have hsb0 : ∀ x ∈ fl ([] ++ [[b33], [b27], [b5], [b3], M]), x ∈ fl [[b33], [b27], [b5], [b3], M] := pick_sub [some 0, some 1, some 2, some 3, some 4] _ rfl
  have hsb : ∀ x ∈ fl ([] ++ [(fl [[b33], [b27], [b5], [b3], M])]), x ∈ fl [[b33], [b27], [b5], [b3], M] := fun x hx => hsb0 x (fl_unfold x hx)
  have hcall := gen_Lists_w a0_25 c0_25 x24.1.1 a0_31 c0_31 x30.1.1 _ w40 (fl [[b33], [b27], [b5], [b3], M]) (MS.fold (P := []) hpk) (hf25_1.sub hsb) (hf31_1.sub hsb) hx
  refine x_call 20 #[] #[] [.slice a0_25 (x24.1.1).length c0_25, .slice a0_31 (x30.1.1).length c0_31] _ rfl rfl rfl rfl hcall ?_
  rintro v w44 ⟨rfl, he44⟩
  clear hcall hx
  refine ⟨.inl rfl, ?_⟩
  have hst := Stp.ext (ls := [[b33], [b27], [b5], [b3], M]) he44
  replace hs_p0_0 := hs_p0_0.step hst
  replace hs_p1_1 := hs_p1_1.step hst
  replace hb3 := he44.box hb3 nn
  replace hb5 := he44.box hb5 nn
  replace hf25_1 := hf25_1.step hst
  replace hb27 := he44.box hb27 nn
  replace hf31_1 := hf31_1.step hst
  replace hb33 := he44.box hb33 nn
  replace hf37_1 := hf37_1.step hst
  replace hf40_1 := hf40_1.step hst
  replace hms := hms.ev he44
  replace hev := hev.ext he44
  clear hpk hsb hsb0
  refine x_pure 2 [(90, .bool (!x43)), (91, .bool (!x43))] _ _ _ (by kernel_rfl) ?_
  refine x_split 91 (!x43) rfl (fun hb => ?_) (fun hb => ?_)
  · replace h := ite_t hb h
    refine x_pure 22 [(92, undef), (93, undef), (94, undef), (95, undef), (96, undef), (97, .bool true), (98, .bool true), (99, undef), (100, undef), (101, undef), (102, .bool true), (103, .bool true), (104, undef), (105, undef), (106, undef), (107, undef), (108, .bool true), (109, .bool true), (110, undef), (111, undef), (112, undef), (113, .bool true)] _ _ _ (by kernel_rfl) ?_
    refine x_end rfl (k_then ?_)
    refine c_norm [(3, .pointer (some ⟨b3, 0, none⟩)), (4, .pointer (some ⟨b5, 0, none⟩)), (113, .bool true)] ⟨rfl, rfl, rfl, trivial⟩ (fun J => ?_)
    refine c_true rfl ?_
    refine c_seq (c_plain ?_)
    refine x_pure 1 [(6, .bool false)] _ _ _ (by kernel_rfl) ?_
    refine x_end rfl (k_then ?_)
    refine c_ret ?_
    refine k_then_ret ?_
    refine r_ret (r_vals [.bool false] ⟨rfl, trivial⟩ ?_)
    have hx := some_inj h
    subst hx
    have hmr : MS w44 [M] := hms.pick [some 4] _ rfl
    have hsu : ∀ x ∈ fl [M], x ∈ fl [[b33], [b27], [b5], [b3], M] := pick_sub [some 4] _ rfl
    exact ⟨rfl, hev⟩
  replace h := ite_f hb h
  refine x_fieldAddr (xv := .pointer (some ⟨b27, 0, none⟩)) (.pointer (some ⟨b27, 1, none⟩)) rfl rfl rfl (reads_field tfld34_1 _ _) ?_
  refine x_load (xv := .pointer (some ⟨b27, 1, none⟩)) (.int .i64 x24.1.2) rfl rfl rfl (reads_box tcell3 hb27 nn 1 _ rfl) ?_
  refine x_fieldAddr (xv := .pointer (some ⟨b33, 0, none⟩)) (.pointer (some ⟨b33, 1, none⟩)) rfl rfl rfl (reads_field tfld34_1 _ _) ?_
  refine x_load (xv := .pointer (some ⟨b33, 1, none⟩)) (.int .i64 x30.1.2) rfl rfl rfl (reads_box tcell3 hb33 nn 1 _ rfl) ?_
  refine x_pure 3 [(96, .bool (x24.1.2 != x30.1.2)), (97, .bool (x24.1.2 != x30.1.2)), (98, .bool (x24.1.2 != x30.1.2))] _ _ _ (by kernel_rfl) ?_
  refine x_split 98 (x24.1.2 != x30.1.2) rfl (fun hb => ?_) (fun hb => ?_)
  · replace h := ite_t hb h
    refine x_pure 15 [(99, undef), (100, undef), (101, undef), (102, .bool true), (103, .bool true), (104, undef), (105, undef), (106, undef), (107, undef), (108, .bool true), (109, .bool true), (110, undef), (111, undef), (112, undef), (113, .bool true)] _ _ _ (by kernel_rfl) ?_
    refine x_end rfl (k_then ?_)
    refine c_norm [(3, .pointer (some ⟨b3, 0, none⟩)), (4, .pointer (some ⟨b5, 0, none⟩)), (113, .bool true)] ⟨rfl, rfl, rfl, trivial⟩ (fun J => ?_)
    refine c_true rfl ?_
    refine c_seq (c_plain ?_)
    refine x_pure 1 [(6, .bool false)] _ _ _ (by kernel_rfl) ?_
    refine x_end rfl (k_then ?_)
    refine c_ret ?_
    refine k_then_ret ?_
    refine r_ret (r_vals [.bool false] ⟨rfl, trivial⟩ ?_)
    have hx := some_inj h
    subst hx
    have hmr : MS w44 [M] := hms.pick [some 4] _ rfl
    have hsu : ∀ x ∈ fl [M], x ∈ fl [[b33], [b27], [b5], [b3], M] := pick_sub [some 4] _ rfl
    exact ⟨rfl, hev⟩
  replace h := ite_f hb h
  refine x_pure 5 [(99, .int .i64 x24.2), (100, .int .i64 x30.2), (101, .bool (x24.2 != x30.2)), (102, .bool (x24.2 != x30.2)), (103, .bool (x24.2 != x30.2))] _ _ _ (by kernel_rfl) ?_
  refine x_split 103 (x24.2 != x30.2) rfl (fun hb => ?_) (fun hb => ?_)
  · replace h := ite_t hb h
    refine x_pure 10 [(104, undef), (105, undef), (106, undef), (107, undef), (108, .bool true), (109, .bool true), (110, undef), (111, undef), (112, undef), (113, .bool true)] _ _ _ (by kernel_rfl) ?_
    refine x_end rfl (k_then ?_)
    refine c_norm [(3, .pointer (some ⟨b3, 0, none⟩)), (4, .pointer (some ⟨b5, 0, none⟩)), (113, .bool true)] ⟨rfl, rfl, rfl, trivial⟩ (fun J => ?_)
    refine c_true rfl ?_
    refine c_seq (c_plain ?_)
    refine x_pure 1 [(6, .bool false)] _ _ _ (by kernel_rfl) ?_
    refine x_end rfl (k_then ?_)
    refine c_ret ?_
    refine k_then_ret ?_
    refine r_ret (r_vals [.bool false] ⟨rfl, trivial⟩ ?_)
    have hx := some_inj h
    subst hx
    have hmr : MS w44 [M] := hms.pick [some 4] _ rfl
    have hsu : ∀ x ∈ fl [M], x ∈ fl [[b33], [b27], [b5], [b3], M] := pick_sub [some 4] _ rfl
    exact ⟨rfl, hev⟩
  replace h := ite_f hb h
  refine x_pure 2 [(104, .slice a0_37 (x36.1).length c0_37), (105, .slice a0_40 (x39.1).length c0_40)] _ _ _ (by kernel_rfl) ?_
  obtain ⟨x45, hx, h⟩ := bind_some h
  have hpk : MS w44 ([] ++ [[b33], [b27], [b5], [b3], M]) := hms.pick [some 0, some 1, some 2, some 3, some 4] _ rfl
  have hsb0 : ∀ x ∈ fl ([] ++ [[b33], [b27], [b5], [b3], M]), x ∈ fl [[b33], [b27], [b5], [b3], M] := pick_sub [some 0, some 1, some 2, some 3, some 4] _ rfl
  have hsb : ∀ x ∈ fl ([] ++ [(fl [[b33], [b27], [b5], [b3], M])]), x ∈ fl [[b33], [b27], [b5], [b3], M] := fun x hx => hsb0 x (fl_unfold x hx)
  have hcall := gen_Ints_w a0_37 c0_37 x36.1 a0_40 c0_40 x39.1 _ w44 (fl [[b33], [b27], [b5], [b3], M]) (MS.fold (P := []) hpk) (hf37_1.sub hsb) (hf40_1.sub hsb) hx
  refine x_call 19 #[] #[] [.slice a0_37 (x36.1).length c0_37, .slice a0_40 (x39.1).length c0_40] _ rfl rfl rfl rfl hcall ?_
  rintro v w46 ⟨rfl, he46⟩
  clear hcall hx
  refine ⟨.inl rfl, ?_⟩
  have hst := Stp.ext (ls := [[b33], [b27], [b5], [b3], M]) he46
  replace hs_p0_0 := hs_p0_0.step hst
  replace hs_p1_1 := hs_p1_1.step hst
  replace hb3 := he46.box hb3 nn
  replace hb5 := he46.box hb5 nn
  replace hf25_1 := hf25_1.step hst
  replace hb27 := he46.box hb27 nn
  replace hf31_1 := hf31_1.step hst
  replace hb33 := he46.box hb33 nn
  replace hf37_1 := hf37_1.step hst
  replace hf40_1 := hf40_1.step hst
  replace hms := hms.ev he46
  replace hev := hev.ext he46
  clear hpk hsb hsb0
  refine x_pure 3 [(107, .bool (!x45)), (108, .bool (!x45)), (109, .bool (!x45))] _ _ _ (by kernel_rfl) ?_
  refine x_split 109 (!x45) rfl (fun hb => ?_) (fun hb => ?_)
  · replace h := ite_t hb h
    refine x_pure 4 [(110, undef), (111, undef), (112, undef), (113, .bool true)] _ _ _ (by kernel_rfl) ?_
    refine x_end rfl (k_then ?_)
    refine c_norm [(3, .pointer (some ⟨b3, 0, none⟩)), (4, .pointer (some ⟨b5, 0, none⟩)), (113, .bool true)] ⟨rfl, rfl, rfl, trivial⟩ (fun J => ?_)
    refine c_true rfl ?_
    refine c_seq (c_plain ?_)
    refine x_pure 1 [(6, .bool false)] _ _ _ (by kernel_rfl) ?_
    refine x_end rfl (k_then ?_)
    refine c_ret ?_
    refine k_then_ret ?_
    refine r_ret (r_vals [.bool false] ⟨rfl, trivial⟩ ?_)
    have hx := some_inj h
    subst hx
    have hmr : MS w46 [M] := hms.pick [some 4] _ rfl
    have hsu : ∀ x ∈ fl [M], x ∈ fl [[b33], [b27], [b5], [b3], M] := pick_sub [some 4] _ rfl
    exact ⟨rfl, hev⟩
  replace h := ite_f hb h
  refine x_pure 4 [(110, .int .i64 x36.2), (111, .int .i64 x39.2), (112, .bool (x36.2 != x39.2)), (113, .bool (x36.2 != x39.2))] _ _ _ (by kernel_rfl) ?_
  refine x_end rfl (k_then ?_)
  refine c_norm [(3, .pointer (some ⟨b3, 0, none⟩)), (4, .pointer (some ⟨b5, 0, none⟩)), (113, .bool (x36.2 != x39.2))] ⟨rfl, rfl, rfl, trivial⟩ (fun J => ?_)
  refine c_cond (x36.2 != x39.2) rfl (fun hb => ?_) (fun hb => ?_)
  · replace h := ite_t hb h
    refine c_seq (c_plain ?_)
    refine x_pure 1 [(6, .bool false)] _ _ _ (by kernel_rfl) ?_
    refine x_end rfl (k_then ?_)
    refine c_ret ?_
    refine k_then_ret ?_
    refine r_ret (r_vals [.bool false] ⟨rfl, trivial⟩ ?_)
    have hx := some_inj h
    subst hx
    have hmr : MS w46 [M] := hms.pick [some 4] _ rfl
    have hsu : ∀ x ∈ fl [M], x ∈ fl [[b33], [b27], [b5], [b3], M] := pick_sub [some 4] _ rfl
    exact ⟨rfl, hev⟩
  replace h := ite_f hb h
  refine c_skip ?_
  refine k_then ?_
  refine c_seq (c_plain ?_)
  refine x_load (xv := .pointer (some ⟨b3, 0, none⟩)) (.agg #[.slice a_p0_0 (p0_0).length c_p0_0, .int .i64 p0_1]) rfl rfl rfl (reads_boxagg 0 [.slice a_p0_0 (p0_0).length c_p0_0, .int .i64 p0_1] tagg27 hb3 nn rfl) ?_
  refine x_load (xv := .pointer (some ⟨b5, 0, none⟩)) (.agg #[.int .i64 p1_0, .slice a_p1_1 (p1_1).length c_p1_1]) rfl rfl rfl (reads_boxagg 0 [.int .i64 p1_0, .slice a_p1_1 (p1_1).length c_p1_1] tagg30 hb5 nn rfl) ?_
  obtain ⟨x47, hx, h⟩ := bind_some h
  have hpk : MS w46 ([] ++ [[b33], [b27], [b5], [b3], M]) := hms.pick [some 0, some 1, some 2, some 3, some 4] _ rfl
  have hsb0 : ∀ x ∈ fl ([] ++ [[b33], [b27], [b5], [b3], M]), x ∈ fl [[b33], [b27], [b5], [b3], M] := pick_sub [some 0, some 1, some 2, some 3, some 4] _ rfl
  have hsb : ∀ x ∈ fl ([] ++ [(fl [[b33], [b27], [b5], [b3], M])]), x ∈ fl [[b33], [b27], [b5], [b3], M] := fun x hx => hsb0 x (fl_unfold x hx)
  have hcall := rollin_Pushes_w a_p0_0 c_p0_0 p0_0 p0_1 p1_0 a_p1_1 c_p1_1 p1_1 _ w46 (fl [[b33], [b27], [b5], [b3], M]) (MS.fold (P := []) hpk) (hs_p0_0.sub hsb) (hs_p1_1.sub hsb) hx
  refine x_call 21 #[] #[] [.agg #[.slice a_p0_0 (p0_0).length c_p0_0, .int .i64 p0_1], .agg #[.int .i64 p1_0, .slice a_p1_1 (p1_1).length c_p1_1]] _ rfl rfl rfl rfl hcall ?_
  rintro v w48 ⟨rfl, he48⟩
  clear hcall hx
  refine ⟨.inl rfl, ?_⟩
  have hst := Stp.ext (ls := [[b33], [b27], [b5], [b3], M]) he48
  replace hs_p0_0 := hs_p0_0.step hst
  replace hs_p1_1 := hs_p1_1.step hst
  replace hb3 := he48.box hb3 nn
  replace hb5 := he48.box hb5 nn
  replace hf25_1 := hf25_1.step hst
  replace hb27 := he48.box hb27 nn
  replace hf31_1 := hf31_1.step hst
  replace hb33 := he48.box hb33 nn
  replace hms := hms.ev he48
  replace hev := hev.ext he48
  clear hpk hsb hsb0
  refine x_pure 5 [(114, .tuple #[.int .i64 x47.1, .int .i64 x47.2]), (118, .int .i64 x47.1), (119, .int .i64 x47.2), (19, .int .i64 x47.1), (9, .int .i64 x47.2)] _ _ _ (by kernel_rfl) ?_
  refine x_end rfl (k_then ?_)
  refine c_seq (c_plain ?_)
  refine x_load (xv := .pointer (some ⟨b3, 0, none⟩)) (.agg #[.slice a_p0_0 (p0_0).length c_p0_0, .int .i64 p0_1]) rfl rfl rfl (reads_boxagg 0 [.slice a_p0_0 (p0_0).length c_p0_0, .int .i64 p0_1] tagg27 hb3 nn rfl) ?_
  refine x_load (xv := .pointer (some ⟨b5, 0, none⟩)) (.agg #[.int .i64 p1_0, .slice a_p1_1 (p1_1).length c_p1_1]) rfl rfl rfl (reads_boxagg 0 [.int .i64 p1_0, .slice a_p1_1 (p1_1).length c_p1_1] tagg30 hb5 nn rfl) ?_
  obtain ⟨x49, hx, h⟩ := bind_some h
  have hpk : MS w48 ([] ++ [[b33], [b27], [b5], [b3], M]) := hms.pick [some 0, some 1, some 2, some 3, some 4] _ rfl
  have hsb0 : ∀ x ∈ fl ([] ++ [[b33], [b27], [b5], [b3], M]), x ∈ fl [[b33], [b27], [b5], [b3], M] := pick_sub [some 0, some 1, some 2, some 3, some 4] _ rfl
  have hsb : ∀ x ∈ fl ([] ++ [(fl [[b33], [b27], [b5], [b3], M])]), x ∈ fl [[b33], [b27], [b5], [b3], M] := fun x hx => hsb0 x (fl_unfold x hx)
  have hcall := r14_Pushes_w a_p0_0 c_p0_0 p0_0 p0_1 p1_0 a_p1_1 c_p1_1 p1_1 _ w48 (fl [[b33], [b27], [b5], [b3], M]) (MS.fold (P := []) hpk) (hs_p0_0.sub hsb) (hs_p1_1.sub hsb) hx
  refine x_call 40 #[] #[] [.agg #[.slice a_p0_0 (p0_0).length c_p0_0, .int .i64 p0_1], .agg #[.int .i64 p1_0, .slice a_p1_1 (p1_1).length c_p1_1]] _ rfl rfl rfl rfl hcall ?_
  rintro v w50 ⟨rfl, he50⟩
  clear hcall hx
  refine ⟨.inl rfl, ?_⟩
  have hst := Stp.ext (ls := [[b33], [b27], [b5], [b3], M]) he50
  replace hs_p0_0 := hs_p0_0.step hst
  replace hs_p1_1 := hs_p1_1.step hst
  replace hb3 := he50.box hb3 nn
  replace hb5 := he50.box hb5 nn
  replace hf25_1 := hf25_1.step hst
  replace hb27 := he50.box hb27 nn
  replace hf31_1 := hf31_1.step hst
  replace hb33 := he50.box hb33 nn
  replace hms := hms.ev he50
  replace hev := hev.ext he50
  clear hpk hsb hsb0
  refine x_pure 5 [(120, .tuple #[.int .i64 x49.1, .int .i64 x49.2]), (124, .int .i64 x49.1), (125, .int .i64 x49.2), (20, .int .i64 x49.1), (12, .int .i64 x49.2)] _ _ _ (by kernel_rfl) ?_
  refine x_end rfl (k_then ?_)
  refine c_norm [(9, .int .i64 x47.2), (12, .int .i64 x49.2), (19, .int .i64 x47.1), (20, .int .i64 x49.1)] ⟨rfl, rfl, rfl, rfl, trivial⟩ (fun J => ?_)
  refine c_seq (c_plain ?_)
  refine x_pure 4 [(126, .int .i64 x47.1), (127, .int .i64 x49.1), (128, .bool (x47.1 == x49.1)), (129, .bool (x47.1 == x49.1))] _ _ _ (by kernel_rfl) ?_
  refine x_split 129 (x47.1 == x49.1) rfl (fun hb => ?_) (fun hb => ?_)
  · replace h := ite_t hb h
    refine x_pure 5 [(130, .int .i64 x47.2), (131, .int .i64 x49.2), (132, .bool (x47.2 == x49.2)), (133, .bool (x47.2 == x49.2)), (6, .bool (x47.2 == x49.2))] _ _ _ (by kernel_rfl) ?_
    refine x_end rfl (k_then ?_)
    refine c_ret ?_
    refine r_ret (r_vals [.bool (x47.2 == x49.2)] ⟨rfl, trivial⟩ ?_)
    have hx := some_inj h
    subst hx
    have hmr : MS w50 [M] := hms.pick [some 4] _ rfl
    have hsu : ∀ x ∈ fl [M], x ∈ fl [[b33], [b27], [b5], [b3], M] := pick_sub [some 4] _ rfl
    exact ⟨rfl, hev⟩
  replace h := ite_f hb h
  refine x_pure 5 [(130, undef), (131, undef), (132, undef), (133, .bool false), (6, .bool false)] _ _ _ (by kernel_rfl) ?_
  refine x_end rfl (k_then ?_)
  refine c_ret ?_
  refine r_ret (r_vals [.bool false] ⟨rfl, trivial⟩ ?_)
  have hx := some_inj h
  subst hx
  have hmr : MS w50 [M] := hms.pick [some 4] _ rfl
  have hsu : ∀ x ∈ fl [M], x ∈ fl [[b33], [b27], [b5], [b3], M] := pick_sub [some 4] _ rfl
  exact ⟨rfl, hev⟩
end Go.Proofs.Ytmjobkpgnhbcbaa
