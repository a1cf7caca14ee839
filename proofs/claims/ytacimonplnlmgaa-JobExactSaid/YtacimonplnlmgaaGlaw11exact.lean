/- Walks, printed by program: each function returns what the partial function of the same name returns. Conditions: those of each theorem. -/
import Derived.Test.YtacimonplnlmgaaGT
import Derived.Test.YtacimonplnlmgaaGgen
import Derived.Test.YtacimonplnlmgaaGjob
import Derived.Test.YtacimonplnlmgaaGr11
set_option linter.unusedVariables false
set_option linter.unusedSimpArgs false
set_option maxRecDepth 4000
namespace Go.Proofs.Ytacimonplnlmgaa
open Go Go.V Go.Proofs
def law11_exact (p0_0 : List (Int × Int × Int × Int)) (p0_1 : Int) (p1 : Int) (p2 : Int) (p3 : List (List Int)) : Option Bool :=
((job_Relation p0_0 p0_1 p1 p2).bind fun x5 =>
((r11_Relation p0_0 p0_1 p1 p2).bind fun x7 =>
((job_Levels p0_0 p0_1).bind fun x9 =>
((r11_Levels p0_0 p0_1).bind fun x12 =>
((job_Valid p0_0 p0_1).bind fun x16 =>
((r11_Valid p0_0 p0_1).bind fun x18 =>
(if (x16 != x18) = true then
some false
else
(if (x5.1 != x7.1) = true then
some false
else
(if (x5.2 != x7.2) = true then
some false
else
((gen_Ints x9.1 x12.1).bind fun x20 =>
(if (!x20) = true then
some false
else
(if (x9.2 != x12.2) = true then
some false
else
((job_Deepest p0_0 p0_1).bind fun x22 =>
((r11_Deepest p0_0 p0_1).bind fun x25 =>
((job_Sorted p0_0 p0_1 p3).bind fun x28 =>
((r11_Sorted p0_0 p0_1 p3).bind fun x30 =>
((gen_Ints x22.1 x25.1).bind fun x32 =>
(if x32 = true then
(if (x22.2 == x25.2) = true then
(if (x28.1 == x30.1) = true then
some (x28.2 == x30.2)
else
some false)
else
some false)
else
some false))))))))))))))))))

theorem law11_exact_w (a_p0_0 : Option Addr) (c_p0_0 : Nat) (p0_0 : List (Int × Int × Int × Int)) (p0_1 : Int) (p1 : Int) (p2 : Int) (a_p3 : Option Addr) (c_p3 : Nat) (p3 : List (List Int)) (r : Bool) (w : World) (M : List Nat) (hms : MS w [M]) (hs_p0_0 : SlR (eProd (eInt .i64) (eProd (eInt .i64) (eProd (eInt .i64) (eInt .i64)))) w (fl [M]) a_p0_0 c_p0_0 p0_0) (hs_p3 : SlR (eSl (eInt .i64)) w (fl [M]) a_p3 c_p3 p3) (h : law11_exact p0_0 p0_1 p1 p2 p3 = some r) : CallVC Try.prog 18 [.agg #[.slice a_p0_0 (p0_0).length c_p0_0, .int .i64 p0_1], .int .i64 p1, .int .i64 p2, .slice a_p3 (p3).length c_p3] w fun v w' => v = .bool r ∧ Ev [] w w' := by
  refine calls_vc hmx Try.func18 (by kernel_rfl) rfl (rs := [.tmp 8]) rfl (by kernel_rfl) (args := [.agg #[.slice a_p0_0 (p0_0).length c_p0_0, .int .i64 p0_1], .int .i64 p1, .int .i64 p2, .slice a_p3 (p3).length c_p3]) rfl ?_
  have hev : Ev [] w w := Ev.refl _ _
  have hfr : FR w.heap.size [] := FR.nil _
  refine c_seq (c_plain ?_)
  refine x_box (xv := .agg #[.slice a_p0_0 (p0_0).length c_p0_0, .int .i64 p0_1]) rfl rfl rfl (fun b3 w3 hq3 hb3 he3 hz3 => ?_)
  replace hb3 : w3.heap[b3]? = some (.cells #[.slice a_p0_0 (p0_0).length c_p0_0, .int .i64 p0_1] 24 (0, 0)) := hb3
  refine ⟨.inl rfl, ?_⟩
  have hst := Stp.box (ls := [M]) he3 hq3
  replace hs_p0_0 := hs_p0_0.step hst
  replace hs_p3 := hs_p3.step hst
  replace hms := hms.box he3 hq3 hb3
  replace hfr := hfr.box hev.size hq3
  replace hev := hev.ext he3
  refine x_pure 1 [(8, .bool false)] _ _ _ (by kernel_rfl) ?_
  refine x_end rfl (k_then ?_)
  refine c_seq (c_plain ?_)
  refine x_load (xv := .pointer (some ⟨b3, 0, none⟩)) (.agg #[.slice a_p0_0 (p0_0).length c_p0_0, .int .i64 p0_1]) rfl rfl rfl (reads_boxagg 0 [.slice a_p0_0 (p0_0).length c_p0_0, .int .i64 p0_1] tagg24 hb3 nn rfl) ?_
  refine x_pure 2 [(21, .int .i64 p1), (22, .int .i64 p2)] _ _ _ (by kernel_rfl) ?_
  obtain ⟨x5, hx, h⟩ := bind_some h
  have hpk : MS w3 ([] ++ [[b3], M]) := hms.pick [some 0, some 1] _ rfl
  have hsb0 : ∀ x ∈ fl ([] ++ [[b3], M]), x ∈ fl [[b3], M] := pick_sub [some 0, some 1] _ rfl
  have hsb : ∀ x ∈ fl ([] ++ [(fl [[b3], M])]), x ∈ fl [[b3], M] := fun x hx => hsb0 x (fl_unfold x hx)
  have hcall := job_Relation_w a_p0_0 c_p0_0 p0_0 p0_1 p1 p2 _ w3 (fl [[b3], M]) (MS.fold (P := []) hpk) (hs_p0_0.sub hsb) hx
  refine x_call 23 #[] #[] [.agg #[.slice a_p0_0 (p0_0).length c_p0_0, .int .i64 p0_1], .int .i64 p1, .int .i64 p2] _ rfl rfl rfl rfl hcall ?_
  rintro v w6 ⟨rfl, he6⟩
  clear hcall hx
  refine ⟨.inl rfl, ?_⟩
  have hst := Stp.ext (ls := [[b3], M]) he6
  replace hs_p0_0 := hs_p0_0.step hst
  replace hs_p3 := hs_p3.step hst
  replace hb3 := he6.box hb3 nn
  replace hms := hms.ev he6
  replace hev := hev.ext he6
  clear hpk hsb hsb0
  refine x_pure 5 [(19, .tuple #[.int .i64 x5.1, .int .i64 x5.2]), (24, .int .i64 x5.1), (25, .int .i64 x5.2), (9, .int .i64 x5.1), (10, .int .i64 x5.2)] _ _ _ (by kernel_rfl) ?_
  refine x_end rfl (k_then ?_)
  refine c_seq (c_plain ?_)
  refine x_load (xv := .pointer (some ⟨b3, 0, none⟩)) (.agg #[.slice a_p0_0 (p0_0).length c_p0_0, .int .i64 p0_1]) rfl rfl rfl (reads_boxagg 0 [.slice a_p0_0 (p0_0).length c_p0_0, .int .i64 p0_1] tagg24 hb3 nn rfl) ?_
  refine x_pure 2 [(28, .int .i64 p1), (29, .int .i64 p2)] _ _ _ (by kernel_rfl) ?_
  obtain ⟨x7, hx, h⟩ := bind_some h
  have hpk : MS w6 ([] ++ [[b3], M]) := hms.pick [some 0, some 1] _ rfl
  have hsb0 : ∀ x ∈ fl ([] ++ [[b3], M]), x ∈ fl [[b3], M] := pick_sub [some 0, some 1] _ rfl
  have hsb : ∀ x ∈ fl ([] ++ [(fl [[b3], M])]), x ∈ fl [[b3], M] := fun x hx => hsb0 x (fl_unfold x hx)
  have hcall := r11_Relation_w a_p0_0 c_p0_0 p0_0 p0_1 p1 p2 _ w6 (fl [[b3], M]) (MS.fold (P := []) hpk) (hs_p0_0.sub hsb) hx
  refine x_call 29 #[] #[] [.agg #[.slice a_p0_0 (p0_0).length c_p0_0, .int .i64 p0_1], .int .i64 p1, .int .i64 p2] _ rfl rfl rfl rfl hcall ?_
  rintro v w8 ⟨rfl, he8⟩
  clear hcall hx
  refine ⟨.inl rfl, ?_⟩
  have hst := Stp.ext (ls := [[b3], M]) he8
  replace hs_p0_0 := hs_p0_0.step hst
  replace hs_p3 := hs_p3.step hst
  replace hb3 := he8.box hb3 nn
  replace hms := hms.ev he8
  replace hev := hev.ext he8
  clear hpk hsb hsb0
  refine x_pure 5 [(26, .tuple #[.int .i64 x7.1, .int .i64 x7.2]), (31, .int .i64 x7.1), (32, .int .i64 x7.2), (11, .int .i64 x7.1), (12, .int .i64 x7.2)] _ _ _ (by kernel_rfl) ?_
  refine x_end rfl (k_then ?_)
  refine c_norm [(3, .slice a_p3 (p3).length c_p3), (4, .pointer (some ⟨b3, 0, none⟩)), (9, .int .i64 x5.1), (10, .int .i64 x5.2), (11, .int .i64 x7.1), (12, .int .i64 x7.2)] ⟨rfl, rfl, rfl, rfl, rfl, rfl, trivial⟩ (fun J => ?_)
  refine c_seq (c_plain ?_)
  refine x_load (xv := .pointer (some ⟨b3, 0, none⟩)) (.agg #[.slice a_p0_0 (p0_0).length c_p0_0, .int .i64 p0_1]) rfl rfl rfl (reads_boxagg 0 [.slice a_p0_0 (p0_0).length c_p0_0, .int .i64 p0_1] tagg24 hb3 nn rfl) ?_
  obtain ⟨x9, hx, h⟩ := bind_some h
  have hpk : MS w8 ([] ++ [[b3], M]) := hms.pick [some 0, some 1] _ rfl
  have hsb0 : ∀ x ∈ fl ([] ++ [[b3], M]), x ∈ fl [[b3], M] := pick_sub [some 0, some 1] _ rfl
  have hsb : ∀ x ∈ fl ([] ++ [(fl [[b3], M])]), x ∈ fl [[b3], M] := fun x hx => hsb0 x (fl_unfold x hx)
  have hcall := job_Levels_w a_p0_0 c_p0_0 p0_0 p0_1 _ w8 (fl [[b3], M]) (MS.fold (P := []) hpk) (hs_p0_0.sub hsb) hx
  refine x_call 10 #[] #[] [.agg #[.slice a_p0_0 (p0_0).length c_p0_0, .int .i64 p0_1]] _ rfl rfl rfl rfl hcall ?_
  rintro v w10 ⟨a0_10, c0_10, rfl, he10, hmn10, hfn10, hf10_1⟩
  clear hcall hx
  refine ⟨.inl rfl, ?_⟩
  have hpk2 : MS w8 ([] ++ [[b3], M]) := hms.pick [some 0, some 1] _ rfl
  have hsb2 : ∀ x ∈ fl ([] ++ [[b3], M]), x ∈ fl [[b3], M] := pick_sub [some 0, some 1] _ rfl
  have hst0 := Stp.call (LS := [[b3], M]) (res := [blk a0_10]) (par := []) (R := [[b3], M]) he10 (fun b hb => hsb2 b (fl_left' (P := []) b hb)) hfn10 (NP.init _ _) (fun x hx => hsb2 x (fl_right' (P := []) x hx))
  have hsn : ∀ x ∈ fl [blk a0_10, [b3], M], x ∈ fl ([blk a0_10] ++ ([] ++ [[b3], M])) := pick_sub [some 0, some 1, some 2] _ rfl
  have hst := hst0.res hsn
  replace hs_p0_0 := hs_p0_0.step hst
  replace hs_p3 := hs_p3.step hst
  replace hb3 := he10.box hb3 ((MS.outs (P := []) hpk2 0 rfl) _ (List.mem_singleton.2 rfl))
  replace hms : MS w10 [blk a0_10, [b3], M] := (MS.call (P := []) (R := [[b3], M]) (res := [blk a0_10]) (par := []) hpk2 he10 hmn10 hfn10 (NP.init _ _)).pick [some 0, some 1, some 2] _ rfl
  have hfr2 : FR w.heap.size [blk a0_10, [b3]] := (FR.cons (fun b hb => Nat.le_trans hev.size (hfn10.at 0 rfl b hb)) (FR.cons (hfr.at 0 rfl) (FR.nil _)))
  replace hev := hev.ext he10
  replace hfr := hfr2
  clear hfr2
  replace hf10_1 := OwnS.plain (M' := fl [blk a0_10, [b3], M]) (plain_int _) hf10_1
  clear hpk hsb hsb0 hpk2 hsb2 hst0 hsn hst
  have hpk : MS w10 [[b3], M] := hms.pick [some 1, some 2] _ rfl
  have hsu : ∀ x ∈ fl [[b3], M], x ∈ fl [blk a0_10, [b3], M] := pick_sub [some 1, some 2] _ rfl
  replace hs_p0_0 := hs_p0_0.sub hsu
  replace hs_p3 := hs_p3.sub hsu
  replace hf10_1 := hf10_1.ro hsu (pick_out hms 0 rfl [some 1, some 2] [[b3], M] rfl rfl)
  replace hms := hpk
  replace hfr : FR w.heap.size [[b3]] := hfr.pick [some 1] _ rfl
  clear hpk hsu
  refine x_pure 5 [(33, .tuple #[.slice a0_10 (x9.1).length c0_10, .int .i64 x9.2]), (36, .slice a0_10 (x9.1).length c0_10), (37, .int .i64 x9.2), (13, .slice a0_10 (x9.1).length c0_10), (14, .int .i64 x9.2)] _ _ _ (by kernel_rfl) ?_
  refine x_end rfl (k_then ?_)
  refine c_seq (c_plain ?_)
  refine x_load (xv := .pointer (some ⟨b3, 0, none⟩)) (.agg #[.slice a_p0_0 (p0_0).length c_p0_0, .int .i64 p0_1]) rfl rfl rfl (reads_boxagg 0 [.slice a_p0_0 (p0_0).length c_p0_0, .int .i64 p0_1] tagg24 hb3 nn rfl) ?_
  obtain ⟨x12, hx, h⟩ := bind_some h
  have hpk : MS w10 ([] ++ [[b3], M]) := hms.pick [some 0, some 1] _ rfl
  have hsb0 : ∀ x ∈ fl ([] ++ [[b3], M]), x ∈ fl [[b3], M] := pick_sub [some 0, some 1] _ rfl
  have hsb : ∀ x ∈ fl ([] ++ [(fl [[b3], M])]), x ∈ fl [[b3], M] := fun x hx => hsb0 x (fl_unfold x hx)
  have hcall := r11_Levels_w a_p0_0 c_p0_0 p0_0 p0_1 _ w10 (fl [[b3], M]) (MS.fold (P := []) hpk) (hs_p0_0.sub hsb) hx
  refine x_call 30 #[] #[] [.agg #[.slice a_p0_0 (p0_0).length c_p0_0, .int .i64 p0_1]] _ rfl rfl rfl rfl hcall ?_
  rintro v w13 ⟨a0_13, c0_13, rfl, he13, hmn13, hfn13, hf13_1⟩
  clear hcall hx
  refine ⟨.inl rfl, ?_⟩
  have hpk2 : MS w10 ([] ++ [[b3], M]) := hms.pick [some 0, some 1] _ rfl
  have hsb2 : ∀ x ∈ fl ([] ++ [[b3], M]), x ∈ fl [[b3], M] := pick_sub [some 0, some 1] _ rfl
  have hst0 := Stp.call (LS := [[b3], M]) (res := [blk a0_13]) (par := []) (R := [[b3], M]) he13 (fun b hb => hsb2 b (fl_left' (P := []) b hb)) hfn13 (NP.init _ _) (fun x hx => hsb2 x (fl_right' (P := []) x hx))
  have hsn : ∀ x ∈ fl [blk a0_13, [b3], M], x ∈ fl ([blk a0_13] ++ ([] ++ [[b3], M])) := pick_sub [some 0, some 1, some 2] _ rfl
  have hst := hst0.res hsn
  replace hs_p0_0 := hs_p0_0.step hst
  replace hs_p3 := hs_p3.step hst
  replace hb3 := he13.box hb3 ((MS.outs (P := []) hpk2 0 rfl) _ (List.mem_singleton.2 rfl))
  replace hf10_1 := hf10_1.step hst
  replace hms : MS w13 [blk a0_13, [b3], M] := (MS.call (P := []) (R := [[b3], M]) (res := [blk a0_13]) (par := []) hpk2 he13 hmn13 hfn13 (NP.init _ _)).pick [some 0, some 1, some 2] _ rfl
  have hfr2 : FR w.heap.size [blk a0_13, [b3]] := (FR.cons (fun b hb => Nat.le_trans hev.size (hfn13.at 0 rfl b hb)) (FR.cons (hfr.at 0 rfl) (FR.nil _)))
  replace hev := hev.ext he13
  replace hfr := hfr2
  clear hfr2
  replace hf13_1 := OwnS.plain (M' := fl [blk a0_13, [b3], M]) (plain_int _) hf13_1
  clear hpk hsb hsb0 hpk2 hsb2 hst0 hsn hst
  have hpk : MS w13 [[b3], M] := hms.pick [some 1, some 2] _ rfl
  have hsu : ∀ x ∈ fl [[b3], M], x ∈ fl [blk a0_13, [b3], M] := pick_sub [some 1, some 2] _ rfl
  replace hs_p0_0 := hs_p0_0.sub hsu
  replace hs_p3 := hs_p3.sub hsu
  replace hf10_1 := hf10_1.sub hsu
  replace hf13_1 := hf13_1.ro hsu (pick_out hms 0 rfl [some 1, some 2] [[b3], M] rfl rfl)
  replace hms := hpk
  replace hfr : FR w.heap.size [[b3]] := hfr.pick [some 1] _ rfl
  clear hpk hsu
  refine x_pure 5 [(38, .tuple #[.slice a0_13 (x12.1).length c0_13, .int .i64 x12.2]), (41, .slice a0_13 (x12.1).length c0_13), (42, .int .i64 x12.2), (15, .slice a0_13 (x12.1).length c0_13), (16, .int .i64 x12.2)] _ _ _ (by kernel_rfl) ?_
  refine x_end rfl (k_then ?_)
  refine c_norm [(3, .slice a_p3 (p3).length c_p3), (4, .pointer (some ⟨b3, 0, none⟩)), (9, .int .i64 x5.1), (10, .int .i64 x5.2), (11, .int .i64 x7.1), (12, .int .i64 x7.2), (13, .slice a0_10 (x9.1).length c0_10), (14, .int .i64 x9.2), (15, .slice a0_13 (x12.1).length c0_13), (16, .int .i64 x12.2)] ⟨rfl, rfl, rfl, rfl, rfl, rfl, rfl, rfl, rfl, rfl, trivial⟩ (fun J => ?_)
  refine c_seq ?_
  refine c_seq ?_
  refine c_drawn [] [(0, false), (2, false), (1, false), (3, false), (4, false), (5, false), (6, false), (7, false), (8, false), (9, false), (10, false), (11, false), (12, false), (13, false), (14, false), (15, false), (16, false), (17, false), (18, false), (19, false), (20, false), (21, false), (22, false), (23, false), (24, false), (25, false)] _ (by kernel_rfl) rfl ?_
  have hst := Stp.ext (ls := [[b3], M]) (Ev.drew w13)
  replace hs_p0_0 := hs_p0_0.step hst
  replace hs_p3 := hs_p3.step hst
  replace hb3 := (Ev.drew w13).box hb3 nn
  replace hf10_1 := hf10_1.step hst
  replace hf13_1 := hf13_1.step hst
  replace hms := hms.ev (Ev.drew w13)
  replace hev := hev.ext (Ev.drew w13)
  refine x_load (xv := .pointer (some ⟨b3, 0, none⟩)) (.agg #[.slice a_p0_0 (p0_0).length c_p0_0, .int .i64 p0_1]) rfl rfl rfl (reads_boxagg 0 [.slice a_p0_0 (p0_0).length c_p0_0, .int .i64 p0_1] tagg24 hb3 nn rfl) ?_
  refine x_load (xv := .pointer (some ⟨b3, 0, none⟩)) (.agg #[.slice a_p0_0 (p0_0).length c_p0_0, .int .i64 p0_1]) rfl rfl rfl (reads_boxagg 0 [.slice a_p0_0 (p0_0).length c_p0_0, .int .i64 p0_1] tagg24 hb3 nn rfl) ?_
  obtain ⟨x16, hx, h⟩ := bind_some h
  have hpk : MS (w13).drew ([] ++ [[b3], M]) := hms.pick [some 0, some 1] _ rfl
  have hsb0 : ∀ x ∈ fl ([] ++ [[b3], M]), x ∈ fl [[b3], M] := pick_sub [some 0, some 1] _ rfl
  have hsb : ∀ x ∈ fl ([] ++ [(fl [[b3], M])]), x ∈ fl [[b3], M] := fun x hx => hsb0 x (fl_unfold x hx)
  have hcall := job_Valid_w a_p0_0 c_p0_0 p0_0 p0_1 _ (w13).drew (fl [[b3], M]) (MS.fold (P := []) hpk) (hs_p0_0.sub hsb) hx
  refine x_call 11 #[] #[] [.agg #[.slice a_p0_0 (p0_0).length c_p0_0, .int .i64 p0_1]] _ rfl rfl rfl rfl hcall ?_
  rintro v w17 ⟨rfl, he17⟩
  clear hcall hx
  refine ⟨.inr he17, ?_⟩
  have hst := Stp.ext (ls := [[b3], M]) he17
  replace hs_p0_0 := hs_p0_0.step hst
  replace hs_p3 := hs_p3.step hst
  replace hb3 := he17.box hb3 nn
  replace hf10_1 := hf10_1.step hst
  replace hf13_1 := hf13_1.step hst
  replace hms := hms.ev he17
  replace hev := hev.ext he17
  clear hpk hsb hsb0
  obtain ⟨x18, hx, h⟩ := bind_some h
  have hpk : MS w17 ([] ++ [[b3], M]) := hms.pick [some 0, some 1] _ rfl
  have hsb0 : ∀ x ∈ fl ([] ++ [[b3], M]), x ∈ fl [[b3], M] := pick_sub [some 0, some 1] _ rfl
  have hsb : ∀ x ∈ fl ([] ++ [(fl [[b3], M])]), x ∈ fl [[b3], M] := fun x hx => hsb0 x (fl_unfold x hx)
  have hcall := r11_Valid_w a_p0_0 c_p0_0 p0_0 p0_1 _ w17 (fl [[b3], M]) (MS.fold (P := []) hpk) (hs_p0_0.sub hsb) hx
  refine x_call 31 #[] #[] [.agg #[.slice a_p0_0 (p0_0).length c_p0_0, .int .i64 p0_1]] _ rfl rfl rfl rfl hcall ?_
  rintro v w19 ⟨rfl, he19⟩
  clear hcall hx
  refine ⟨.inr he19, ?_⟩
  have hst := Stp.ext (ls := [[b3], M]) he19
  replace hs_p0_0 := hs_p0_0.step hst
  replace hs_p3 := hs_p3.step hst
  replace hb3 := he19.box hb3 nn
  replace hf10_1 := hf10_1.step hst
  replace hf13_1 := hf13_1.step hst
  replace hms := hms.ev he19
  replace hev := hev.ext he19
  clear hpk hsb hsb0
  refine x_pure 2 [(47, .bool (x16 != x18)), (48, .bool (x16 != x18))] _ _ _ (by kernel_rfl) ?_
  refine x_split 48 (x16 != x18) rfl (fun hb => ?_) (fun hb => ?_)
  · replace h := ite_t hb h
    refine x_pure 20 [(49, undef), (50, undef), (51, undef), (52, .bool true), (53, .bool true), (54, undef), (55, undef), (56, undef), (57, .bool true), (58, .bool true), (59, undef), (60, undef), (61, undef), (62, undef), (63, .bool true), (64, .bool true), (65, undef), (66, undef), (67, undef), (68, .bool true)] _ _ _ (by kernel_rfl) ?_
    refine x_end rfl (k_then ?_)
    refine c_norm [(3, .slice a_p3 (p3).length c_p3), (4, .pointer (some ⟨b3, 0, none⟩)), (68, .bool true)] ⟨rfl, rfl, rfl, trivial⟩ (fun J => ?_)
    refine c_true rfl ?_
    refine c_seq (c_plain ?_)
    refine x_pure 1 [(8, .bool false)] _ _ _ (by kernel_rfl) ?_
    refine x_end rfl (k_then ?_)
    refine c_ret ?_
    refine k_then_ret ?_
    refine r_ret (r_vals [.bool false] ⟨rfl, trivial⟩ ?_)
    have hx := some_inj h
    subst hx
    have hmr : MS w19 [M] := hms.pick [some 1] _ rfl
    have hsu : ∀ x ∈ fl [M], x ∈ fl [[b3], M] := pick_sub [some 1] _ rfl
    exact ⟨rfl, hev⟩
  replace h := ite_f hb h
  refine x_pure 5 [(49, .int .i64 x5.1), (50, .int .i64 x7.1), (51, .bool (x5.1 != x7.1)), (52, .bool (x5.1 != x7.1)), (53, .bool (x5.1 != x7.1))] _ _ _ (by kernel_rfl) ?_
  refine x_split 53 (x5.1 != x7.1) rfl (fun hb => ?_) (fun hb => ?_)
  · replace h := ite_t hb h
    refine x_pure 15 [(54, undef), (55, undef), (56, undef), (57, .bool true), (58, .bool true), (59, undef), (60, undef), (61, undef), (62, undef), (63, .bool true), (64, .bool true), (65, undef), (66, undef), (67, undef), (68, .bool true)] _ _ _ (by kernel_rfl) ?_
    refine x_end rfl (k_then ?_)
    refine c_norm [(3, .slice a_p3 (p3).length c_p3), (4, .pointer (some ⟨b3, 0, none⟩)), (68, .bool true)] ⟨rfl, rfl, rfl, trivial⟩ (fun J => ?_)
    refine c_true rfl ?_
    refine c_seq (c_plain ?_)
    refine x_pure 1 [(8, .bool false)] _ _ _ (by kernel_rfl) ?_
    refine x_end rfl (k_then ?_)
    refine c_ret ?_
    refine k_then_ret ?_
    refine r_ret (r_vals [.bool false] ⟨rfl, trivial⟩ ?_)
    have hx := some_inj h
    subst hx
    have hmr : MS w19 [M] := hms.pick [some 1] _ rfl
    have hsu : ∀ x ∈ fl [M], x ∈ fl [[b3], M] := pick_sub [some 1] _ rfl
    exact ⟨rfl, hev⟩
  replace h := ite_f hb h
  refine x_pure 5 [(54, .int .i64 x5.2), (55, .int .i64 x7.2), (56, .bool (x5.2 != x7.2)), (57, .bool (x5.2 != x7.2)), (58, .bool (x5.2 != x7.2))] _ _ _ (by kernel_rfl) ?_
  refine x_split 58 (x5.2 != x7.2) rfl (fun hb => ?_) (fun hb => ?_)
  · replace h := ite_t hb h
    refine x_pure 10 [(59, undef), (60, undef), (61, undef), (62, undef), (63, .bool true), (64, .bool true), (65, undef), (66, undef), (67, undef), (68, .bool true)] _ _ _ (by kernel_rfl) ?_
    refine x_end rfl (k_then ?_)
    refine c_norm [(3, .slice a_p3 (p3).length c_p3), (4, .pointer (some ⟨b3, 0, none⟩)), (68, .bool true)] ⟨rfl, rfl, rfl, trivial⟩ (fun J => ?_)
    refine c_true rfl ?_
    refine c_seq (c_plain ?_)
    refine x_pure 1 [(8, .bool false)] _ _ _ (by kernel_rfl) ?_
    refine x_end rfl (k_then ?_)
    refine c_ret ?_
    refine k_then_ret ?_
    refine r_ret (r_vals [.bool false] ⟨rfl, trivial⟩ ?_)
    have hx := some_inj h
    subst hx
    have hmr : MS w19 [M] := hms.pick [some 1] _ rfl
    have hsu : ∀ x ∈ fl [M], x ∈ fl [[b3], M] := pick_sub [some 1] _ rfl
    exact ⟨rfl, hev⟩
  replace h := ite_f hb h
  refine x_pure 2 [(59, .slice a0_10 (x9.1).length c0_10), (60, .slice a0_13 (x12.1).length c0_13)] _ _ _ (by kernel_rfl) ?_
  obtain ⟨x20, hx, h⟩ := bind_some h
  have hpk : MS w19 ([] ++ [[b3], M]) := hms.pick [some 0, some 1] _ rfl
  have hsb0 : ∀ x ∈ fl ([] ++ [[b3], M]), x ∈ fl [[b3], M] := pick_sub [some 0, some 1] _ rfl
  have hsb : ∀ x ∈ fl ([] ++ [(fl [[b3], M])]), x ∈ fl [[b3], M] := fun x hx => hsb0 x (fl_unfold x hx)
  have hcall := gen_Ints_w a0_10 c0_10 x9.1 a0_13 c0_13 x12.1 _ w19 (fl [[b3], M]) (MS.fold (P := []) hpk) (hf10_1.sub hsb) (hf13_1.sub hsb) hx
  refine x_call 16 #[] #[] [.slice a0_10 (x9.1).length c0_10, .slice a0_13 (x12.1).length c0_13] _ rfl rfl rfl rfl hcall ?_
  rintro v w21 ⟨rfl, he21⟩
  clear hcall hx
  refine ⟨.inr he21, ?_⟩
  have hst := Stp.ext (ls := [[b3], M]) he21
  replace hs_p0_0 := hs_p0_0.step hst
  replace hs_p3 := hs_p3.step hst
  replace hb3 := he21.box hb3 nn
  replace hf10_1 := hf10_1.step hst
  replace hf13_1 := hf13_1.step hst
  replace hms := hms.ev he21
  replace hev := hev.ext he21
  clear hpk hsb hsb0
  refine x_pure 3 [(62, .bool (!x20)), (63, .bool (!x20)), (64, .bool (!x20))] _ _ _ (by kernel_rfl) ?_
  refine x_split 64 (!x20) rfl (fun hb => ?_) (fun hb => ?_)
  · replace h := ite_t hb h
    refine x_pure 4 [(65, undef), (66, undef), (67, undef), (68, .bool true)] _ _ _ (by kernel_rfl) ?_
    refine x_end rfl (k_then ?_)
    refine c_norm [(3, .slice a_p3 (p3).length c_p3), (4, .pointer (some ⟨b3, 0, none⟩)), (68, .bool true)] ⟨rfl, rfl, rfl, trivial⟩ (fun J => ?_)
    refine c_true rfl ?_
    refine c_seq (c_plain ?_)
    refine x_pure 1 [(8, .bool false)] _ _ _ (by kernel_rfl) ?_
    refine x_end rfl (k_then ?_)
    refine c_ret ?_
    refine k_then_ret ?_
    refine r_ret (r_vals [.bool false] ⟨rfl, trivial⟩ ?_)
    have hx := some_inj h
    subst hx
    have hmr : MS w21 [M] := hms.pick [some 1] _ rfl
    have hsu : ∀ x ∈ fl [M], x ∈ fl [[b3], M] := pick_sub [some 1] _ rfl
    exact ⟨rfl, hev⟩
  replace h := ite_f hb h
  refine x_pure 4 [(65, .int .i64 x9.2), (66, .int .i64 x12.2), (67, .bool (x9.2 != x12.2)), (68, .bool (x9.2 != x12.2))] _ _ _ (by kernel_rfl) ?_
  refine x_end rfl (k_then ?_)
  refine c_norm [(3, .slice a_p3 (p3).length c_p3), (4, .pointer (some ⟨b3, 0, none⟩)), (68, .bool (x9.2 != x12.2))] ⟨rfl, rfl, rfl, trivial⟩ (fun J => ?_)
  refine c_cond (x9.2 != x12.2) rfl (fun hb => ?_) (fun hb => ?_)
  · replace h := ite_t hb h
    refine c_seq (c_plain ?_)
    refine x_pure 1 [(8, .bool false)] _ _ _ (by kernel_rfl) ?_
    refine x_end rfl (k_then ?_)
    refine c_ret ?_
    refine k_then_ret ?_
    refine r_ret (r_vals [.bool false] ⟨rfl, trivial⟩ ?_)
    have hx := some_inj h
    subst hx
    have hmr : MS w21 [M] := hms.pick [some 1] _ rfl
    have hsu : ∀ x ∈ fl [M], x ∈ fl [[b3], M] := pick_sub [some 1] _ rfl
    exact ⟨rfl, hev⟩
  replace h := ite_f hb h
  refine c_skip ?_
  refine k_then ?_
  refine c_seq (c_plain ?_)
  refine x_load (xv := .pointer (some ⟨b3, 0, none⟩)) (.agg #[.slice a_p0_0 (p0_0).length c_p0_0, .int .i64 p0_1]) rfl rfl rfl (reads_boxagg 0 [.slice a_p0_0 (p0_0).length c_p0_0, .int .i64 p0_1] tagg24 hb3 nn rfl) ?_
  obtain ⟨x22, hx, h⟩ := bind_some h
  have hpk : MS w21 ([] ++ [[b3], M]) := hms.pick [some 0, some 1] _ rfl
  have hsb0 : ∀ x ∈ fl ([] ++ [[b3], M]), x ∈ fl [[b3], M] := pick_sub [some 0, some 1] _ rfl
  have hsb : ∀ x ∈ fl ([] ++ [(fl [[b3], M])]), x ∈ fl [[b3], M] := fun x hx => hsb0 x (fl_unfold x hx)
  have hcall := job_Deepest_w a_p0_0 c_p0_0 p0_0 p0_1 _ w21 (fl [[b3], M]) (MS.fold (P := []) hpk) (hs_p0_0.sub hsb) hx
  refine x_call 22 #[] #[] [.agg #[.slice a_p0_0 (p0_0).length c_p0_0, .int .i64 p0_1]] _ rfl rfl rfl rfl hcall ?_
  rintro v w23 ⟨a0_23, c0_23, rfl, he23, hmn23, hfn23, hf23_1⟩
  clear hcall hx
  refine ⟨.inl rfl, ?_⟩
  have hpk2 : MS w21 ([] ++ [[b3], M]) := hms.pick [some 0, some 1] _ rfl
  have hsb2 : ∀ x ∈ fl ([] ++ [[b3], M]), x ∈ fl [[b3], M] := pick_sub [some 0, some 1] _ rfl
  have hst0 := Stp.call (LS := [[b3], M]) (res := [blk a0_23]) (par := []) (R := [[b3], M]) he23 (fun b hb => hsb2 b (fl_left' (P := []) b hb)) hfn23 (NP.init _ _) (fun x hx => hsb2 x (fl_right' (P := []) x hx))
  have hsn : ∀ x ∈ fl [blk a0_23, [b3], M], x ∈ fl ([blk a0_23] ++ ([] ++ [[b3], M])) := pick_sub [some 0, some 1, some 2] _ rfl
  have hst := hst0.res hsn
  replace hs_p0_0 := hs_p0_0.step hst
  replace hs_p3 := hs_p3.step hst
  replace hb3 := he23.box hb3 ((MS.outs (P := []) hpk2 0 rfl) _ (List.mem_singleton.2 rfl))
  replace hms : MS w23 [blk a0_23, [b3], M] := (MS.call (P := []) (R := [[b3], M]) (res := [blk a0_23]) (par := []) hpk2 he23 hmn23 hfn23 (NP.init _ _)).pick [some 0, some 1, some 2] _ rfl
  have hfr2 : FR w.heap.size [blk a0_23, [b3]] := (FR.cons (fun b hb => Nat.le_trans hev.size (hfn23.at 0 rfl b hb)) (FR.cons (hfr.at 0 rfl) (FR.nil _)))
  replace hev := hev.ext he23
  replace hfr := hfr2
  clear hfr2
  replace hf23_1 := OwnS.plain (M' := fl [blk a0_23, [b3], M]) (plain_int _) hf23_1
  clear hpk hsb hsb0 hpk2 hsb2 hst0 hsn hst
  have hpk : MS w23 [[b3], M] := hms.pick [some 1, some 2] _ rfl
  have hsu : ∀ x ∈ fl [[b3], M], x ∈ fl [blk a0_23, [b3], M] := pick_sub [some 1, some 2] _ rfl
  replace hs_p0_0 := hs_p0_0.sub hsu
  replace hs_p3 := hs_p3.sub hsu
  replace hf23_1 := hf23_1.ro hsu (pick_out hms 0 rfl [some 1, some 2] [[b3], M] rfl rfl)
  replace hms := hpk
  replace hfr : FR w.heap.size [[b3]] := hfr.pick [some 1] _ rfl
  clear hpk hsu
  refine x_pure 5 [(69, .tuple #[.slice a0_23 (x22.1).length c0_23, .int .i64 x22.2]), (72, .slice a0_23 (x22.1).length c0_23), (73, .int .i64 x22.2), (13, .slice a0_23 (x22.1).length c0_23), (14, .int .i64 x22.2)] _ _ _ (by kernel_rfl) ?_
  refine x_end rfl (k_then ?_)
  refine c_seq (c_plain ?_)
  refine x_load (xv := .pointer (some ⟨b3, 0, none⟩)) (.agg #[.slice a_p0_0 (p0_0).length c_p0_0, .int .i64 p0_1]) rfl rfl rfl (reads_boxagg 0 [.slice a_p0_0 (p0_0).length c_p0_0, .int .i64 p0_1] tagg24 hb3 nn rfl) ?_
  obtain ⟨x25, hx, h⟩ := bind_some h
  have hpk : MS w23 ([] ++ [[b3], M]) := hms.pick [some 0, some 1] _ rfl
  have hsb0 : ∀ x ∈ fl ([] ++ [[b3], M]), x ∈ fl [[b3], M] := pick_sub [some 0, some 1] _ rfl
  have hsb : ∀ x ∈ fl ([] ++ [(fl [[b3], M])]), x ∈ fl [[b3], M] := fun x hx => hsb0 x (fl_unfold x hx)
  have hcall := r11_Deepest_w a_p0_0 c_p0_0 p0_0 p0_1 _ w23 (fl [[b3], M]) (MS.fold (P := []) hpk) (hs_p0_0.sub hsb) hx
  refine x_call 32 #[] #[] [.agg #[.slice a_p0_0 (p0_0).length c_p0_0, .int .i64 p0_1]] _ rfl rfl rfl rfl hcall ?_
  rintro v w26 ⟨a0_26, c0_26, rfl, he26, hmn26, hfn26, hf26_1⟩
  clear hcall hx
  refine ⟨.inl rfl, ?_⟩
  have hpk2 : MS w23 ([] ++ [[b3], M]) := hms.pick [some 0, some 1] _ rfl
  have hsb2 : ∀ x ∈ fl ([] ++ [[b3], M]), x ∈ fl [[b3], M] := pick_sub [some 0, some 1] _ rfl
  have hst0 := Stp.call (LS := [[b3], M]) (res := [blk a0_26]) (par := []) (R := [[b3], M]) he26 (fun b hb => hsb2 b (fl_left' (P := []) b hb)) hfn26 (NP.init _ _) (fun x hx => hsb2 x (fl_right' (P := []) x hx))
  have hsn : ∀ x ∈ fl [blk a0_26, [b3], M], x ∈ fl ([blk a0_26] ++ ([] ++ [[b3], M])) := pick_sub [some 0, some 1, some 2] _ rfl
  have hst := hst0.res hsn
  replace hs_p0_0 := hs_p0_0.step hst
  replace hs_p3 := hs_p3.step hst
  replace hb3 := he26.box hb3 ((MS.outs (P := []) hpk2 0 rfl) _ (List.mem_singleton.2 rfl))
  replace hf23_1 := hf23_1.step hst
  replace hms : MS w26 [blk a0_26, [b3], M] := (MS.call (P := []) (R := [[b3], M]) (res := [blk a0_26]) (par := []) hpk2 he26 hmn26 hfn26 (NP.init _ _)).pick [some 0, some 1, some 2] _ rfl
  have hfr2 : FR w.heap.size [blk a0_26, [b3]] := (FR.cons (fun b hb => Nat.le_trans hev.size (hfn26.at 0 rfl b hb)) (FR.cons (hfr.at 0 rfl) (FR.nil _)))
  replace hev := hev.ext he26
  replace hfr := hfr2
  clear hfr2
  replace hf26_1 := OwnS.plain (M' := fl [blk a0_26, [b3], M]) (plain_int _) hf26_1
  clear hpk hsb hsb0 hpk2 hsb2 hst0 hsn hst
  have hpk : MS w26 [[b3], M] := hms.pick [some 1, some 2] _ rfl
  have hsu : ∀ x ∈ fl [[b3], M], x ∈ fl [blk a0_26, [b3], M] := pick_sub [some 1, some 2] _ rfl
  replace hs_p0_0 := hs_p0_0.sub hsu
  replace hs_p3 := hs_p3.sub hsu
  replace hf23_1 := hf23_1.sub hsu
  replace hf26_1 := hf26_1.ro hsu (pick_out hms 0 rfl [some 1, some 2] [[b3], M] rfl rfl)
  replace hms := hpk
  replace hfr : FR w.heap.size [[b3]] := hfr.pick [some 1] _ rfl
  clear hpk hsu
  refine x_pure 5 [(74, .tuple #[.slice a0_26 (x25.1).length c0_26, .int .i64 x25.2]), (77, .slice a0_26 (x25.1).length c0_26), (78, .int .i64 x25.2), (15, .slice a0_26 (x25.1).length c0_26), (16, .int .i64 x25.2)] _ _ _ (by kernel_rfl) ?_
  refine x_end rfl (k_then ?_)
  refine c_norm [(3, .slice a_p3 (p3).length c_p3), (4, .pointer (some ⟨b3, 0, none⟩)), (13, .slice a0_23 (x22.1).length c0_23), (14, .int .i64 x22.2), (15, .slice a0_26 (x25.1).length c0_26), (16, .int .i64 x25.2)] ⟨rfl, rfl, rfl, rfl, rfl, rfl, trivial⟩ (fun J => ?_)
  refine c_seq (c_plain ?_)
  refine x_load (xv := .pointer (some ⟨b3, 0, none⟩)) (.agg #[.slice a_p0_0 (p0_0).length c_p0_0, .int .i64 p0_1]) rfl rfl rfl (reads_boxagg 0 [.slice a_p0_0 (p0_0).length c_p0_0, .int .i64 p0_1] tagg24 hb3 nn rfl) ?_
  refine x_pure 1 [(81, .slice a_p3 (p3).length c_p3)] _ _ _ (by kernel_rfl) ?_
  obtain ⟨x28, hx, h⟩ := bind_some h
  have hpk : MS w26 ([] ++ [[b3], M]) := hms.pick [some 0, some 1] _ rfl
  have hsb0 : ∀ x ∈ fl ([] ++ [[b3], M]), x ∈ fl [[b3], M] := pick_sub [some 0, some 1] _ rfl
  have hsb : ∀ x ∈ fl ([] ++ [(fl [[b3], M])]), x ∈ fl [[b3], M] := fun x hx => hsb0 x (fl_unfold x hx)
  have hcall := job_Sorted_w a_p0_0 c_p0_0 p0_0 p0_1 a_p3 c_p3 p3 _ w26 (fl [[b3], M]) (MS.fold (P := []) hpk) (hs_p0_0.sub hsb) (hs_p3.sub hsb) hx
  refine x_call 15 #[] #[] [.agg #[.slice a_p0_0 (p0_0).length c_p0_0, .int .i64 p0_1], .slice a_p3 (p3).length c_p3] _ rfl rfl rfl rfl hcall ?_
  rintro v w29 ⟨rfl, he29⟩
  clear hcall hx
  refine ⟨.inl rfl, ?_⟩
  have hst := Stp.ext (ls := [[b3], M]) he29
  replace hs_p0_0 := hs_p0_0.step hst
  replace hs_p3 := hs_p3.step hst
  replace hb3 := he29.box hb3 nn
  replace hf23_1 := hf23_1.step hst
  replace hf26_1 := hf26_1.step hst
  replace hms := hms.ev he29
  replace hev := hev.ext he29
  clear hpk hsb hsb0
  refine x_pure 5 [(79, .tuple #[.bool x28.1, .int .i64 x28.2]), (83, .bool x28.1), (84, .int .i64 x28.2), (17, .bool x28.1), (10, .int .i64 x28.2)] _ _ _ (by kernel_rfl) ?_
  refine x_end rfl (k_then ?_)
  refine c_seq (c_plain ?_)
  refine x_load (xv := .pointer (some ⟨b3, 0, none⟩)) (.agg #[.slice a_p0_0 (p0_0).length c_p0_0, .int .i64 p0_1]) rfl rfl rfl (reads_boxagg 0 [.slice a_p0_0 (p0_0).length c_p0_0, .int .i64 p0_1] tagg24 hb3 nn rfl) ?_
  refine x_pure 1 [(87, .slice a_p3 (p3).length c_p3)] _ _ _ (by kernel_rfl) ?_
  obtain ⟨x30, hx, h⟩ := bind_some h
  have hpk : MS w29 ([] ++ [[b3], M]) := hms.pick [some 0, some 1] _ rfl
  have hsb0 : ∀ x ∈ fl ([] ++ [[b3], M]), x ∈ fl [[b3], M] := pick_sub [some 0, some 1] _ rfl
  have hsb : ∀ x ∈ fl ([] ++ [(fl [[b3], M])]), x ∈ fl [[b3], M] := fun x hx => hsb0 x (fl_unfold x hx)
  have hcall := r11_Sorted_w a_p0_0 c_p0_0 p0_0 p0_1 a_p3 c_p3 p3 _ w29 (fl [[b3], M]) (MS.fold (P := []) hpk) (hs_p0_0.sub hsb) (hs_p3.sub hsb) hx
  refine x_call 33 #[] #[] [.agg #[.slice a_p0_0 (p0_0).length c_p0_0, .int .i64 p0_1], .slice a_p3 (p3).length c_p3] _ rfl rfl rfl rfl hcall ?_
  rintro v w31 ⟨rfl, he31⟩
  clear hcall hx
  refine ⟨.inl rfl, ?_⟩
  have hst := Stp.ext (ls := [[b3], M]) he31
  replace hs_p0_0 := hs_p0_0.step hst
  replace hs_p3 := hs_p3.step hst
  replace hb3 := he31.box hb3 nn
  replace hf23_1 := hf23_1.step hst
  replace hf26_1 := hf26_1.step hst
  replace hms := hms.ev he31
  replace hev := hev.ext he31
  clear hpk hsb hsb0
  refine x_pure 5 [(85, .tuple #[.bool x30.1, .int .i64 x30.2]), (89, .bool x30.1), (90, .int .i64 x30.2), (18, .bool x30.1), (12, .int .i64 x30.2)] _ _ _ (by kernel_rfl) ?_
  refine x_end rfl (k_then ?_)
  refine c_norm [(10, .int .i64 x28.2), (12, .int .i64 x30.2), (13, .slice a0_23 (x22.1).length c0_23), (14, .int .i64 x22.2), (15, .slice a0_26 (x25.1).length c0_26), (16, .int .i64 x25.2), (17, .bool x28.1), (18, .bool x30.1)] ⟨rfl, rfl, rfl, rfl, rfl, rfl, rfl, rfl, trivial⟩ (fun J => ?_)
  refine c_seq (c_plain ?_)
  refine x_pure 2 [(91, .slice a0_23 (x22.1).length c0_23), (92, .slice a0_26 (x25.1).length c0_26)] _ _ _ (by kernel_rfl) ?_
  obtain ⟨x32, hx, h⟩ := bind_some h
  have hpk : MS w31 ([] ++ [[b3], M]) := hms.pick [some 0, some 1] _ rfl
  have hsb0 : ∀ x ∈ fl ([] ++ [[b3], M]), x ∈ fl [[b3], M] := pick_sub [some 0, some 1] _ rfl
  have hsb : ∀ x ∈ fl ([] ++ [(fl [[b3], M])]), x ∈ fl [[b3], M] := fun x hx => hsb0 x (fl_unfold x hx)
  have hcall := gen_Ints_w a0_23 c0_23 x22.1 a0_26 c0_26 x25.1 _ w31 (fl [[b3], M]) (MS.fold (P := []) hpk) (hf23_1.sub hsb) (hf26_1.sub hsb) hx
  refine x_call 16 #[] #[] [.slice a0_23 (x22.1).length c0_23, .slice a0_26 (x25.1).length c0_26] _ rfl rfl rfl rfl hcall ?_
  rintro v w33 ⟨rfl, he33⟩
  clear hcall hx
  refine ⟨.inl rfl, ?_⟩
  have hst := Stp.ext (ls := [[b3], M]) he33
  replace hs_p0_0 := hs_p0_0.step hst
  replace hb3 := he33.box hb3 nn
  replace hf23_1 := hf23_1.step hst
  replace hf26_1 := hf26_1.step hst
  replace hms := hms.ev he33
  replace hev := hev.ext he33
  clear hpk hsb hsb0
  refine x_pure 1 [(94, .bool x32)] _ _ _ (by kernel_rfl) ?_
  refine x_split 94 x32 rfl (fun hb => ?_) (fun hb => ?_)
  · replace h := ite_t hb h
    refine x_pure 5 [(95, .int .i64 x22.2), (96, .int .i64 x25.2), (97, .bool (x22.2 == x25.2)), (98, .bool (x22.2 == x25.2)), (99, .bool (x22.2 == x25.2))] _ _ _ (by kernel_rfl) ?_
    refine x_split 99 (x22.2 == x25.2) rfl (fun hb => ?_) (fun hb => ?_)
    · replace h := ite_t hb h
      refine x_pure 2 [(100, .bool x28.1), (101, .bool x30.1)] _ _ _ (by kernel_rfl) ?_
      refine x_binop (.bool (x28.1 == x30.1)) (.bool x28.1) (.bool x30.1) rfl rfl rfl rfl (vb_booleql tbool4) ?_
      refine x_pure 2 [(103, .bool (x28.1 == x30.1)), (104, .bool (x28.1 == x30.1))] _ _ _ (by kernel_rfl) ?_
      refine x_split 104 (x28.1 == x30.1) rfl (fun hb => ?_) (fun hb => ?_)
      · replace h := ite_t hb h
        refine x_pure 5 [(105, .int .i64 x28.2), (106, .int .i64 x30.2), (107, .bool (x28.2 == x30.2)), (108, .bool (x28.2 == x30.2)), (8, .bool (x28.2 == x30.2))] _ _ _ (by kernel_rfl) ?_
        refine x_end rfl (k_then ?_)
        refine c_norm [(8, .bool (x28.2 == x30.2))] ⟨rfl, trivial⟩ (fun J => ?_)
        refine c_ret ?_
        refine r_ret (r_vals [.bool (x28.2 == x30.2)] ⟨rfl, trivial⟩ ?_)
        have hx := some_inj h
        subst hx
        have hmr : MS w33 [M] := hms.pick [some 1] _ rfl
        have hsu : ∀ x ∈ fl [M], x ∈ fl [[b3], M] := pick_sub [some 1] _ rfl
        exact ⟨rfl, hev⟩
      replace h := ite_f hb h
      refine x_pure 5 [(105, undef), (106, undef), (107, undef), (108, .bool false), (8, .bool false)] _ _ _ (by kernel_rfl) ?_
      refine x_end rfl (k_then ?_)
      refine c_norm [(8, .bool false)] ⟨rfl, trivial⟩ (fun J => ?_)
      refine c_ret ?_
      refine r_ret (r_vals [.bool false] ⟨rfl, trivial⟩ ?_)
      have hx := some_inj h
      subst hx
      have hmr : MS w33 [M] := hms.pick [some 1] _ rfl
      have hsu : ∀ x ∈ fl [M], x ∈ fl [[b3], M] := pick_sub [some 1] _ rfl
      exact ⟨rfl, hev⟩
    replace h := ite_f hb h
    refine x_pure 10 [(100, undef), (101, undef), (102, undef), (103, .bool false), (104, .bool false), (105, undef), (106, undef), (107, undef), (108, .bool false), (8, .bool false)] _ _ _ (by kernel_rfl) ?_
    refine x_end rfl (k_then ?_)
    refine c_norm [(8, .bool false)] ⟨rfl, trivial⟩ (fun J => ?_)
    refine c_ret ?_
    refine r_ret (r_vals [.bool false] ⟨rfl, trivial⟩ ?_)
    have hx := some_inj h
    subst hx
    have hmr : MS w33 [M] := hms.pick [some 1] _ rfl
    have hsu : ∀ x ∈ fl [M], x ∈ fl [[b3], M] := pick_sub [some 1] _ rfl
    exact ⟨rfl, hev⟩
  replace h := ite_f hb h
  refine x_pure 15 [(95, undef), (96, undef), (97, undef), (98, .bool false), (99, .bool false), (100, undef), (101, undef), (102, undef), (103, .bool false), (104, .bool false), (105, undef), (106, undef), (107, undef), (108, .bool false), (8, .bool false)] _ _ _ (by kernel_rfl) ?_
  refine x_end rfl (k_then ?_)
  refine c_norm [(8, .bool false)] ⟨rfl, trivial⟩ (fun J => ?_)
  refine c_ret ?_
  refine r_ret (r_vals [.bool false] ⟨rfl, trivial⟩ ?_)
  have hx := some_inj h
  subst hx
  have hmr : MS w33 [M] := hms.pick [some 1] _ rfl
  have hsu : ∀ x ∈ fl [M], x ∈ fl [[b3], M] := pick_sub [some 1] _ rfl
  exact ⟨rfl, hev⟩
end Go.Proofs.Ytacimonplnlmgaa
