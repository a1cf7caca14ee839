/- Walks, printed by program: each function returns what the partial function of the same name returns. Conditions: those of each theorem. -/
import Derived.Test.YtacimonplnlmgaaGT
import Derived.Test.YtacimonplnlmgaaGgen
import Derived.Test.YtacimonplnlmgaaGjob
import Derived.Test.YtacimonplnlmgaaGlaw11sane
set_option linter.unusedVariables false
set_option linter.unusedSimpArgs false
set_option maxRecDepth 4000
namespace Go.Proofs.Ytacimonplnlmgaa
open Go Go.V Go.Proofs
def law11_JobChain_L25 (x6 : ((List (Int × Int × Int × Int)) × Int) × Int) (x15 : (List Int) × Int) (s : Int × Int) : Option (Step (Int × Int) (Unit ⊕ Int)) :=
match s with
| (strict_s9_l25, i_s12_l25) =>
(if (decide (i_s12_l25 < ((x15.1).length : Int))) = true then
((idx x15.1 (IntKind.i64.wrap (i_s12_l25 - 1))).bind fun x27 =>
((idx x15.1 i_s12_l25).bind fun x29 =>
((job_Relation x6.1.1 x6.1.2 x27 x29).bind fun x31 =>
(if (x31.2 != 0) = true then
some (.done (.inl ()))
else
(if (x31.1 == 0) = true then
some (.done (.inl ()))
else
some (.next (IntKind.i64.wrap (strict_s9_l25 + (IntKind.i64.wrap (x31.1 - 1))), IntKind.i64.wrap (i_s12_l25 + 1))))))))
else
some (.done (.inr strict_s9_l25)))

def law11_JobChain_L20 (x12 : (List Int) × Int) (s : Int × Int) : Option (Step (Int × Int) Int) :=
match s with
| (most_s8_l20, t53__s53_l20) =>
(if (decide (t53__s53_l20 < ((x12.1).length : Int))) = true then
((idx x12.1 t53__s53_l20).bind fun x22 =>
some (.next (if x22 > most_s8_l20 then x22 else most_s8_l20, IntKind.i64.wrap (t53__s53_l20 + 1))))
else
some (.done most_s8_l20))

def law11_JobChain (p0 : List Int) : Option Bool :=
((gen_New p0).bind fun x2 =>
((gen_Maker_Job x2.1 x2.2 20).bind fun x6 =>
((job_Levels x6.1.1 x6.1.2).bind fun x12 =>
((job_Deepest x6.1.1 x6.1.2).bind fun x15 =>
(if (x12.2 != 0) = true then
some false
else
(if (x15.2 != 0) = true then
some false
else
(if (((x12.1).length : Int) != ((x6.1.1).length : Int)) = true then
some false
else
(if ((((x15.1).length : Int) == 0) != (((x12.1).length : Int) == 0)) = true then
some false
else
((loop (law11_JobChain_L20 x12) (0, 0)).bind fun d => match d with
| most_s8_x20 => ((loop (law11_JobChain_L25 x6 x15) (0, 1)).bind fun d => match d with
| (.inl _) => some false
| (.inr strict_s9_x2501) => (if (strict_s9_x2501 == most_s8_x20) = true then
((law11_sane).bind fun x33 =>
some x33)
else
some false)))))))))))

theorem law11_JobChain_w (a_p0 : Option Addr) (c_p0 : Nat) (p0 : List Int) (r : Bool) (w : World) (M : List Nat) (hms : MS w [M]) (hs_p0 : SlR (eInt .i64) w (fl [M]) a_p0 c_p0 p0) (h : law11_JobChain p0 = some r) : CallVC Try.prog 7 [.slice a_p0 (p0).length c_p0] w fun v w' => v = .bool r ∧ Ev [] w w' := by
  refine calls_vc hmx Try.func7 (by kernel_rfl) rfl (rs := [.tmp 2]) rfl (by kernel_rfl) (args := [.slice a_p0 (p0).length c_p0]) rfl ?_
  have hev : Ev [] w w := Ev.refl _ _
  have hfr : FR w.heap.size [] := FR.nil _
  refine c_seq (c_plain ?_)
  refine x_pure 1 [(2, .bool false)] _ _ _ (by kernel_rfl) ?_
  refine x_end rfl (k_then ?_)
  refine c_seq (c_plain ?_)
  refine x_pure 1 [(15, .slice a_p0 (p0).length c_p0)] _ _ _ (by kernel_rfl) ?_
  obtain ⟨x2, hx, h⟩ := bind_some h
  have hpk : MS w ([] ++ [M]) := hms.pick [some 0] _ rfl
  have hsb0 : ∀ x ∈ fl ([] ++ [M]), x ∈ fl [M] := pick_sub [some 0] _ rfl
  have hsb : ∀ x ∈ fl ([] ++ [(fl [M])]), x ∈ fl [M] := fun x hx => hsb0 x (fl_unfold x hx)
  have hcall := gen_New_w a_p0 c_p0 p0 _ w (fl [M]) (MS.fold (P := []) hpk) (hs_p0.sub hsb) hx
  refine x_call 13 #[] #[] [.slice a_p0 (p0).length c_p0] _ rfl rfl rfl rfl hcall ?_
  rintro v w3 ⟨b0_3, a1_3, c1_3, rfl, he3, hmn3, hfn3, hf3_1, hf3_2⟩
  clear hcall hx
  refine ⟨.inl rfl, ?_⟩
  have hpk2 : MS w ([] ++ [M]) := hms.pick [some 0] _ rfl
  have hsb2 : ∀ x ∈ fl ([] ++ [M]), x ∈ fl [M] := pick_sub [some 0] _ rfl
  have hst0 := Stp.call (LS := [M]) (res := [[b0_3]]) (par := []) (R := [M]) he3 (fun b hb => hsb2 b (fl_left' (P := []) b hb)) hfn3 (NP.init _ _) (fun x hx => hsb2 x (fl_right' (P := []) x hx))
  have hsn : ∀ x ∈ fl [[b0_3], M], x ∈ fl ([[b0_3]] ++ ([] ++ [M])) := pick_sub [some 0, some 1] _ rfl
  have hst := hst0.res hsn
  replace hs_p0 := hs_p0.step hst
  replace hms : MS w3 [[b0_3], M] := (MS.call (P := []) (R := [M]) (res := [[b0_3]]) (par := []) hpk2 he3 hmn3 hfn3 (NP.init _ _)).pick [some 0, some 1] _ rfl
  have hfr2 : FR w.heap.size [[b0_3]] := (FR.cons (fun b hb => Nat.le_trans hev.size (hfn3.at 0 rfl b hb)) (FR.nil _))
  replace hev := hev.ext he3
  replace hfr := hfr2
  clear hfr2
  have hsp : ∀ x ∈ fl [[b0_3], M], x ∈ fl ([[b0_3]] ++ ([] ++ [(fl [M])])) := fun x hx => fl_tot (res := [[b0_3]]) (par := []) (R := [M]) x (hsn x hx)
  replace hf3_2 := hf3_2.sub hsp
  clear hpk hsb hsb0 hpk2 hsb2 hst0 hsn hst
  obtain ⟨x6, hx, h⟩ := bind_some h
  have hpk : MS w3 ([[b0_3]] ++ [M]) := hms.pick [some 0, some 1] _ rfl
  have hsb0 : ∀ x ∈ fl ([[b0_3]] ++ [M]), x ∈ fl [[b0_3], M] := pick_sub [some 0, some 1] _ rfl
  have hsb : ∀ x ∈ fl ([[b0_3]] ++ [(fl [M])]), x ∈ fl [[b0_3], M] := fun x hx => hsb0 x (fl_unfold x hx)
  have hcall := gen_Maker_Job_w b0_3 a1_3 c1_3 x2.1 x2.2 20 _ w3 (fl [M]) (hpk.fold (P := [[b0_3]])) (hf3_2.sub hsb) hf3_1 hx
  refine x_call 14 #[] #[] [.pointer (some ⟨b0_3, 0, none⟩), .int .i64 20] _ rfl rfl rfl rfl hcall ?_
  rintro v w7 ⟨a0_7, c0_7, rfl, he7, hp7_0, hmn7, hfn7, hf7_1⟩
  clear hcall hx
  refine ⟨.inl rfl, ?_⟩
  have hpk2 : MS w3 ([[b0_3]] ++ [M]) := hms.pick [some 0, some 1] _ rfl
  have hsb2 : ∀ x ∈ fl ([[b0_3]] ++ [M]), x ∈ fl [[b0_3], M] := pick_sub [some 0, some 1] _ rfl
  have hst0 := Stp.call (LS := [[b0_3], M]) (res := [blk a0_7]) (par := [[b0_3]]) (R := [M]) he7 (fun b hb => hsb2 b (fl_left' (P := [[b0_3]]) b hb)) hfn7 (NP.init _ _) (fun x hx => hsb2 x (fl_right' (P := [[b0_3]]) x hx))
  have hsn : ∀ x ∈ fl [blk a0_7, [b0_3], M], x ∈ fl ([blk a0_7] ++ ([[b0_3]] ++ [M])) := pick_sub [some 0, some 1, some 2] _ rfl
  have hst := hst0.res hsn
  replace hs_p0 := hs_p0.step hst
  replace hf3_2 := hf3_2.step hst
  replace hms : MS w7 [blk a0_7, [b0_3], M] := (MS.call (P := [[b0_3]]) (R := [M]) (res := [blk a0_7]) (par := [[b0_3]]) hpk2 he7 hmn7 hfn7 (NP.init _ _)).pick [some 0, some 1, some 2] _ rfl
  have hPf : ∀ b ∈ fl [[b0_3]], w.heap.size ≤ b := FR.mem (ls := [[b0_3]]) (hfr.pick [some 0] _ rfl)
  have hfr2 : FR w.heap.size [blk a0_7, [b0_3]] := (FR.cons (fun b hb => Nat.le_trans hev.size (hfn7.at 0 rfl b hb)) (FR.cons (hfr.at 0 rfl) (FR.nil _)))
  replace hev := hev.then he7 (fun b hb => .inr (hPf b hb))
  replace hfr := hfr2
  clear hfr2
  replace hf3_1 := hp7_0
  replace hf7_1 := OwnS.plain (M' := fl [blk a0_7, [b0_3], M]) (plain_prod (plain_int _) (plain_prod (plain_int _) (plain_prod (plain_int _) (plain_int _)))) hf7_1
  clear hpk hsb hsb0 hpk2 hsb2 hst0 hsn hst
  have hpk : MS w7 [[b0_3], M] := hms.pick [some 1, some 2] _ rfl
  have hsu : ∀ x ∈ fl [[b0_3], M], x ∈ fl [blk a0_7, [b0_3], M] := pick_sub [some 1, some 2] _ rfl
  replace hs_p0 := hs_p0.sub hsu
  replace hf3_2 := hf3_2.sub hsu
  replace hf7_1 := hf7_1.ro hsu (pick_out hms 0 rfl [some 1, some 2] [[b0_3], M] rfl rfl)
  replace hms := hpk
  replace hfr : FR w.heap.size [[b0_3]] := hfr.pick [some 1] _ rfl
  clear hpk hsu
  refine x_alloc (z := .agg #[.slice none 0 0, .int .i64 0]) rfl rfl (by kernel_rfl) (fun b9 w9 hq9 hb9 he9 hz9 => ?_)
  replace hb9 : w9.heap[b9]? = some (.cells #[.slice none 0 0, .int .i64 0] 24 (0, 0)) := hb9
  refine ⟨.inl rfl, ?_⟩
  have hst := Stp.box (ls := [[b0_3], M]) he9 hq9
  replace hs_p0 := hs_p0.step hst
  replace hf3_1 := he9.box hf3_1 nn
  replace hf3_2 := hf3_2.step hst
  replace hf7_1 := hf7_1.step hst
  replace hms := hms.box he9 hq9 hb9
  replace hfr := hfr.box hev.size hq9
  replace hev := hev.ext he9
  obtain ⟨w11, hr11, hb11, he11⟩ := store_boxagg 0 [.slice a0_7 (x6.1.1).length c0_7, .int .i64 x6.1.2] #[.slice a0_7 (x6.1.1).length c0_7, .int .i64 x6.1.2] tagg24 hb9 rfl rfl rfl
  refine x_store w11 (xv := .pointer (some ⟨b9, 0, none⟩)) (yv := .agg #[.slice a0_7 (x6.1.1).length c0_7, .int .i64 x6.1.2]) rfl rfl rfl rfl hr11 ?_
  refine ⟨.inl rfl, ?_⟩
  have hst := Stp.ev' (ls := [[b9], [b0_3], M]) he11 (mem_flat 0 rfl)
  replace hs_p0 := hs_p0.step hst
  replace hf3_1 := he11.box hf3_1 (hms.apart 1 0 rfl rfl rfl _ (List.mem_singleton.2 rfl))
  replace hf3_2 := hf3_2.step hst
  replace hf7_1 := hf7_1.step hst
  replace hms := hms.ev he11
  replace hev := hev.then he11 (fun b hb => .inr (hfr.at 0 rfl b hb))
  replace hb9 := hb11
  refine x_end rfl (k_then ?_)
  refine c_seq (c_plain ?_)
  refine x_load (xv := .pointer (some ⟨b9, 0, none⟩)) (.agg #[.slice a0_7 (x6.1.1).length c0_7, .int .i64 x6.1.2]) rfl rfl rfl (reads_boxagg 0 [.slice a0_7 (x6.1.1).length c0_7, .int .i64 x6.1.2] tagg24 hb9 nn rfl) ?_
  obtain ⟨x12, hx, h⟩ := bind_some h
  have hpk : MS w11 ([] ++ [[b9], [b0_3], M]) := hms.pick [some 0, some 1, some 2] _ rfl
  have hsb0 : ∀ x ∈ fl ([] ++ [[b9], [b0_3], M]), x ∈ fl [[b9], [b0_3], M] := pick_sub [some 0, some 1, some 2] _ rfl
  have hsb : ∀ x ∈ fl ([] ++ [(fl [[b9], [b0_3], M])]), x ∈ fl [[b9], [b0_3], M] := fun x hx => hsb0 x (fl_unfold x hx)
  have hcall := job_Levels_w a0_7 c0_7 x6.1.1 x6.1.2 _ w11 (fl [[b9], [b0_3], M]) (MS.fold (P := []) hpk) (hf7_1.sub hsb) hx
  refine x_call 10 #[] #[] [.agg #[.slice a0_7 (x6.1.1).length c0_7, .int .i64 x6.1.2]] _ rfl rfl rfl rfl hcall ?_
  rintro v w13 ⟨a0_13, c0_13, rfl, he13, hmn13, hfn13, hf13_1⟩
  clear hcall hx
  refine ⟨.inl rfl, ?_⟩
  have hpk2 : MS w11 ([] ++ [[b9], [b0_3], M]) := hms.pick [some 0, some 1, some 2] _ rfl
  have hsb2 : ∀ x ∈ fl ([] ++ [[b9], [b0_3], M]), x ∈ fl [[b9], [b0_3], M] := pick_sub [some 0, some 1, some 2] _ rfl
  have hst0 := Stp.call (LS := [[b9], [b0_3], M]) (res := [blk a0_13]) (par := []) (R := [[b9], [b0_3], M]) he13 (fun b hb => hsb2 b (fl_left' (P := []) b hb)) hfn13 (NP.init _ _) (fun x hx => hsb2 x (fl_right' (P := []) x hx))
  have hsn : ∀ x ∈ fl [blk a0_13, [b9], [b0_3], M], x ∈ fl ([blk a0_13] ++ ([] ++ [[b9], [b0_3], M])) := pick_sub [some 0, some 1, some 2, some 3] _ rfl
  have hst := hst0.res hsn
  replace hf3_1 := he13.box hf3_1 ((MS.outs (P := []) hpk2 1 rfl) _ (List.mem_singleton.2 rfl))
  replace hf3_2 := hf3_2.step hst
  replace hf7_1 := hf7_1.step hst
  replace hb9 := he13.box hb9 ((MS.outs (P := []) hpk2 0 rfl) _ (List.mem_singleton.2 rfl))
  replace hms : MS w13 [blk a0_13, [b9], [b0_3], M] := (MS.call (P := []) (R := [[b9], [b0_3], M]) (res := [blk a0_13]) (par := []) hpk2 he13 hmn13 hfn13 (NP.init _ _)).pick [some 0, some 1, some 2, some 3] _ rfl
  have hfr2 : FR w.heap.size [blk a0_13, [b9], [b0_3]] := (FR.cons (fun b hb => Nat.le_trans hev.size (hfn13.at 0 rfl b hb)) (FR.cons (hfr.at 0 rfl) (FR.cons (hfr.at 1 rfl) (FR.nil _))))
  replace hev := hev.ext he13
  replace hfr := hfr2
  clear hfr2
  replace hf13_1 := OwnS.plain (M' := fl [blk a0_13, [b9], [b0_3], M]) (plain_int _) hf13_1
  clear hpk hsb hsb0 hpk2 hsb2 hst0 hsn hst
  have hpk : MS w13 [[b9], [b0_3], M] := hms.pick [some 1, some 2, some 3] _ rfl
  have hsu : ∀ x ∈ fl [[b9], [b0_3], M], x ∈ fl [blk a0_13, [b9], [b0_3], M] := pick_sub [some 1, some 2, some 3] _ rfl
  replace hf3_2 := hf3_2.sub hsu
  replace hf7_1 := hf7_1.sub hsu
  replace hf13_1 := hf13_1.ro hsu (pick_out hms 0 rfl [some 1, some 2, some 3] [[b9], [b0_3], M] rfl rfl)
  replace hms := hpk
  replace hfr : FR w.heap.size [[b9], [b0_3]] := hfr.pick [some 1, some 2] _ rfl
  clear hpk hsu
  refine x_pure 5 [(18, .tuple #[.slice a0_13 (x12.1).length c0_13, .int .i64 x12.2]), (21, .slice a0_13 (x12.1).length c0_13), (22, .int .i64 x12.2), (4, .slice a0_13 (x12.1).length c0_13), (5, .int .i64 x12.2)] _ _ _ (by kernel_rfl) ?_
  refine x_end rfl (k_then ?_)
  refine c_seq (c_plain ?_)
  refine x_load (xv := .pointer (some ⟨b9, 0, none⟩)) (.agg #[.slice a0_7 (x6.1.1).length c0_7, .int .i64 x6.1.2]) rfl rfl rfl (reads_boxagg 0 [.slice a0_7 (x6.1.1).length c0_7, .int .i64 x6.1.2] tagg24 hb9 nn rfl) ?_
  obtain ⟨x15, hx, h⟩ := bind_some h
  have hpk : MS w13 ([] ++ [[b9], [b0_3], M]) := hms.pick [some 0, some 1, some 2] _ rfl
  have hsb0 : ∀ x ∈ fl ([] ++ [[b9], [b0_3], M]), x ∈ fl [[b9], [b0_3], M] := pick_sub [some 0, some 1, some 2] _ rfl
  have hsb : ∀ x ∈ fl ([] ++ [(fl [[b9], [b0_3], M])]), x ∈ fl [[b9], [b0_3], M] := fun x hx => hsb0 x (fl_unfold x hx)
  have hcall := job_Deepest_w a0_7 c0_7 x6.1.1 x6.1.2 _ w13 (fl [[b9], [b0_3], M]) (MS.fold (P := []) hpk) (hf7_1.sub hsb) hx
  refine x_call 22 #[] #[] [.agg #[.slice a0_7 (x6.1.1).length c0_7, .int .i64 x6.1.2]] _ rfl rfl rfl rfl hcall ?_
  rintro v w16 ⟨a0_16, c0_16, rfl, he16, hmn16, hfn16, hf16_1⟩
  clear hcall hx
  refine ⟨.inl rfl, ?_⟩
  have hpk2 : MS w13 ([] ++ [[b9], [b0_3], M]) := hms.pick [some 0, some 1, some 2] _ rfl
  have hsb2 : ∀ x ∈ fl ([] ++ [[b9], [b0_3], M]), x ∈ fl [[b9], [b0_3], M] := pick_sub [some 0, some 1, some 2] _ rfl
  have hst0 := Stp.call (LS := [[b9], [b0_3], M]) (res := [blk a0_16]) (par := []) (R := [[b9], [b0_3], M]) he16 (fun b hb => hsb2 b (fl_left' (P := []) b hb)) hfn16 (NP.init _ _) (fun x hx => hsb2 x (fl_right' (P := []) x hx))
  have hsn : ∀ x ∈ fl [blk a0_16, [b9], [b0_3], M], x ∈ fl ([blk a0_16] ++ ([] ++ [[b9], [b0_3], M])) := pick_sub [some 0, some 1, some 2, some 3] _ rfl
  have hst := hst0.res hsn
  replace hf3_1 := he16.box hf3_1 ((MS.outs (P := []) hpk2 1 rfl) _ (List.mem_singleton.2 rfl))
  replace hf3_2 := hf3_2.step hst
  replace hf7_1 := hf7_1.step hst
  replace hb9 := he16.box hb9 ((MS.outs (P := []) hpk2 0 rfl) _ (List.mem_singleton.2 rfl))
  replace hf13_1 := hf13_1.step hst
  replace hms : MS w16 [blk a0_16, [b9], [b0_3], M] := (MS.call (P := []) (R := [[b9], [b0_3], M]) (res := [blk a0_16]) (par := []) hpk2 he16 hmn16 hfn16 (NP.init _ _)).pick [some 0, some 1, some 2, some 3] _ rfl
  have hfr2 : FR w.heap.size [blk a0_16, [b9], [b0_3]] := (FR.cons (fun b hb => Nat.le_trans hev.size (hfn16.at 0 rfl b hb)) (FR.cons (hfr.at 0 rfl) (FR.cons (hfr.at 1 rfl) (FR.nil _))))
  replace hev := hev.ext he16
  replace hfr := hfr2
  clear hfr2
  replace hf16_1 := OwnS.plain (M' := fl [blk a0_16, [b9], [b0_3], M]) (plain_int _) hf16_1
  clear hpk hsb hsb0 hpk2 hsb2 hst0 hsn hst
  have hpk : MS w16 [[b9], [b0_3], M] := hms.pick [some 1, some 2, some 3] _ rfl
  have hsu : ∀ x ∈ fl [[b9], [b0_3], M], x ∈ fl [blk a0_16, [b9], [b0_3], M] := pick_sub [some 1, some 2, some 3] _ rfl
  replace hf3_2 := hf3_2.sub hsu
  replace hf7_1 := hf7_1.sub hsu
  replace hf13_1 := hf13_1.sub hsu
  replace hf16_1 := hf16_1.ro hsu (pick_out hms 0 rfl [some 1, some 2, some 3] [[b9], [b0_3], M] rfl rfl)
  replace hms := hpk
  replace hfr : FR w.heap.size [[b9], [b0_3]] := hfr.pick [some 1, some 2] _ rfl
  clear hpk hsu
  refine x_pure 5 [(23, .tuple #[.slice a0_16 (x15.1).length c0_16, .int .i64 x15.2]), (26, .slice a0_16 (x15.1).length c0_16), (27, .int .i64 x15.2), (6, .slice a0_16 (x15.1).length c0_16), (7, .int .i64 x15.2)] _ _ _ (by kernel_rfl) ?_
  refine x_end rfl (k_then ?_)
  refine c_norm [(3, .pointer (some ⟨b9, 0, none⟩)), (4, .slice a0_13 (x12.1).length c0_13), (5, .int .i64 x12.2), (6, .slice a0_16 (x15.1).length c0_16), (7, .int .i64 x15.2)] ⟨rfl, rfl, rfl, rfl, rfl, trivial⟩ (fun J => ?_)
  refine c_seq ?_
  refine c_seq (c_plain ?_)
  refine x_pure 3 [(28, .int .i64 x12.2), (29, .bool (x12.2 != 0)), (30, .bool (x12.2 != 0))] _ _ _ (by kernel_rfl) ?_
  refine x_split 30 (x12.2 != 0) rfl (fun hb => ?_) (fun hb => ?_)
  · replace h := ite_t hb h
    refine x_pure 20 [(31, undef), (32, undef), (33, .bool true), (34, .bool true), (35, undef), (36, undef), (37, undef), (38, undef), (39, undef), (40, undef), (41, .bool true), (42, .bool true), (43, undef), (44, undef), (45, undef), (46, undef), (47, undef), (48, undef), (49, undef), (50, .bool true)] _ _ _ (by kernel_rfl) ?_
    refine x_end rfl (k_then ?_)
    refine c_norm [(3, .pointer (some ⟨b9, 0, none⟩)), (4, .slice a0_13 (x12.1).length c0_13), (6, .slice a0_16 (x15.1).length c0_16), (50, .bool true)] ⟨rfl, rfl, rfl, rfl, trivial⟩ (fun J => ?_)
    refine c_true rfl ?_
    refine c_seq (c_plain ?_)
    refine x_pure 1 [(2, .bool false)] _ _ _ (by kernel_rfl) ?_
    refine x_end rfl (k_then ?_)
    refine c_ret ?_
    refine k_then_ret ?_
    refine r_ret (r_vals [.bool false] ⟨rfl, trivial⟩ ?_)
    have hx := some_inj h
    subst hx
    have hmr : MS w16 [M] := hms.pick [some 2] _ rfl
    have hsu : ∀ x ∈ fl [M], x ∈ fl [[b9], [b0_3], M] := pick_sub [some 2] _ rfl
    exact ⟨rfl, hev⟩
  replace h := ite_f hb h
  refine x_pure 4 [(31, .int .i64 x15.2), (32, .bool (x15.2 != 0)), (33, .bool (x15.2 != 0)), (34, .bool (x15.2 != 0))] _ _ _ (by kernel_rfl) ?_
  refine x_split 34 (x15.2 != 0) rfl (fun hb => ?_) (fun hb => ?_)
  · replace h := ite_t hb h
    refine x_pure 16 [(35, undef), (36, undef), (37, undef), (38, undef), (39, undef), (40, undef), (41, .bool true), (42, .bool true), (43, undef), (44, undef), (45, undef), (46, undef), (47, undef), (48, undef), (49, undef), (50, .bool true)] _ _ _ (by kernel_rfl) ?_
    refine x_end rfl (k_then ?_)
    refine c_norm [(3, .pointer (some ⟨b9, 0, none⟩)), (4, .slice a0_13 (x12.1).length c0_13), (6, .slice a0_16 (x15.1).length c0_16), (50, .bool true)] ⟨rfl, rfl, rfl, rfl, trivial⟩ (fun J => ?_)
    refine c_true rfl ?_
    refine c_seq (c_plain ?_)
    refine x_pure 1 [(2, .bool false)] _ _ _ (by kernel_rfl) ?_
    refine x_end rfl (k_then ?_)
    refine c_ret ?_
    refine k_then_ret ?_
    refine r_ret (r_vals [.bool false] ⟨rfl, trivial⟩ ?_)
    have hx := some_inj h
    subst hx
    have hmr : MS w16 [M] := hms.pick [some 2] _ rfl
    have hsu : ∀ x ∈ fl [M], x ∈ fl [[b9], [b0_3], M] := pick_sub [some 2] _ rfl
    exact ⟨rfl, hev⟩
  replace h := ite_f hb h
  refine x_pure 1 [(35, .slice a0_13 (x12.1).length c0_13)] _ _ _ (by kernel_rfl) ?_
  refine x_len (vs := [.slice a0_13 (x12.1).length c0_13]) (.int .i64 ((x12.1).length : Int)) rfl rfl rfl (reads_len tsl27 _ _ _ _ _) ?_
  refine x_fieldAddr (xv := .pointer (some ⟨b9, 0, none⟩)) (.pointer (some ⟨b9, 0, none⟩)) rfl rfl rfl (reads_field tfld24_0 _ _) ?_
  refine x_load (xv := .pointer (some ⟨b9, 0, none⟩)) (.slice a0_7 (x6.1.1).length c0_7) rfl rfl rfl (reads_box tcell22 hb9 nn 0 _ rfl) ?_
  refine x_len (vs := [.slice a0_7 (x6.1.1).length c0_7]) (.int .i64 ((x6.1.1).length : Int)) rfl rfl rfl (reads_len tsl22 _ _ _ _ _) ?_
  refine x_pure 3 [(40, .bool (((x12.1).length : Int) != ((x6.1.1).length : Int))), (41, .bool (((x12.1).length : Int) != ((x6.1.1).length : Int))), (42, .bool (((x12.1).length : Int) != ((x6.1.1).length : Int)))] _ _ _ (by kernel_rfl) ?_
  refine x_split 42 (((x12.1).length : Int) != ((x6.1.1).length : Int)) rfl (fun hb => ?_) (fun hb => ?_)
  · replace h := ite_t hb h
    refine x_pure 8 [(43, undef), (44, undef), (45, undef), (46, undef), (47, undef), (48, undef), (49, undef), (50, .bool true)] _ _ _ (by kernel_rfl) ?_
    refine x_end rfl (k_then ?_)
    refine c_norm [(3, .pointer (some ⟨b9, 0, none⟩)), (4, .slice a0_13 (x12.1).length c0_13), (6, .slice a0_16 (x15.1).length c0_16), (50, .bool true)] ⟨rfl, rfl, rfl, rfl, trivial⟩ (fun J => ?_)
    refine c_true rfl ?_
    refine c_seq (c_plain ?_)
    refine x_pure 1 [(2, .bool false)] _ _ _ (by kernel_rfl) ?_
    refine x_end rfl (k_then ?_)
    refine c_ret ?_
    refine k_then_ret ?_
    refine r_ret (r_vals [.bool false] ⟨rfl, trivial⟩ ?_)
    have hx := some_inj h
    subst hx
    have hmr : MS w16 [M] := hms.pick [some 2] _ rfl
    have hsu : ∀ x ∈ fl [M], x ∈ fl [[b9], [b0_3], M] := pick_sub [some 2] _ rfl
    exact ⟨rfl, hev⟩
  replace h := ite_f hb h
  refine x_pure 1 [(43, .slice a0_16 (x15.1).length c0_16)] _ _ _ (by kernel_rfl) ?_
  refine x_len (vs := [.slice a0_16 (x15.1).length c0_16]) (.int .i64 ((x15.1).length : Int)) rfl rfl rfl (reads_len tsl27 _ _ _ _ _) ?_
  refine x_pure 2 [(45, .bool (((x15.1).length : Int) == 0)), (46, .slice a0_13 (x12.1).length c0_13)] _ _ _ (by kernel_rfl) ?_
  refine x_len (vs := [.slice a0_13 (x12.1).length c0_13]) (.int .i64 ((x12.1).length : Int)) rfl rfl rfl (reads_len tsl27 _ _ _ _ _) ?_
  refine x_pure 1 [(48, .bool (((x12.1).length : Int) == 0))] _ _ _ (by kernel_rfl) ?_
  refine x_binop (.bool ((((x15.1).length : Int) == 0) != (((x12.1).length : Int) == 0))) (.bool (((x15.1).length : Int) == 0)) (.bool (((x12.1).length : Int) == 0)) rfl rfl rfl rfl (vb_boolneq tbool4) ?_
  refine x_pure 1 [(50, .bool ((((x15.1).length : Int) == 0) != (((x12.1).length : Int) == 0)))] _ _ _ (by kernel_rfl) ?_
  refine x_end rfl (k_then ?_)
  refine c_norm [(3, .pointer (some ⟨b9, 0, none⟩)), (4, .slice a0_13 (x12.1).length c0_13), (6, .slice a0_16 (x15.1).length c0_16), (50, .bool ((((x15.1).length : Int) == 0) != (((x12.1).length : Int) == 0)))] ⟨rfl, rfl, rfl, rfl, trivial⟩ (fun J => ?_)
  refine c_cond ((((x15.1).length : Int) == 0) != (((x12.1).length : Int) == 0)) rfl (fun hb => ?_) (fun hb => ?_)
  · replace h := ite_t hb h
    refine c_seq (c_plain ?_)
    refine x_pure 1 [(2, .bool false)] _ _ _ (by kernel_rfl) ?_
    refine x_end rfl (k_then ?_)
    refine c_ret ?_
    refine k_then_ret ?_
    refine r_ret (r_vals [.bool false] ⟨rfl, trivial⟩ ?_)
    have hx := some_inj h
    subst hx
    have hmr : MS w16 [M] := hms.pick [some 2] _ rfl
    have hsu : ∀ x ∈ fl [M], x ∈ fl [[b9], [b0_3], M] := pick_sub [some 2] _ rfl
    exact ⟨rfl, hev⟩
  replace h := ite_f hb h
  refine c_skip ?_
  refine k_then ?_
  refine c_seq (c_plain ?_)
  refine x_pure 2 [(8, .int .i64 0), (9, .int .i64 0)] _ _ _ (by kernel_rfl) ?_
  refine x_end rfl (k_then ?_)
  refine c_seq ?_
  refine c_seq (c_plain ?_)
  refine x_pure 1 [(51, .slice a0_13 (x12.1).length c0_13)] _ _ _ (by kernel_rfl) ?_
  refine x_len (vs := [.slice a0_13 (x12.1).length c0_13]) (.int .i64 ((x12.1).length : Int)) rfl rfl rfl (reads_len tsl27 _ _ _ _ _) ?_
  refine x_pure 1 [(53, .int .i64 0)] _ _ _ (by kernel_rfl) ?_
  refine x_end rfl (k_then ?_)
  refine c_block ?_
  have hpk : MS w16 [[b9], M] := hms.pick [some 0, some 2] _ rfl
  have hsu : ∀ x ∈ fl [[b9], M], x ∈ fl [[b9], [b0_3], M] := pick_sub [some 0, some 2] _ rfl
  replace hf7_1 := hf7_1.sub hsu
  replace hf16_1 := hf16_1.sub hsu
  replace hf13_1 := hf13_1.sub hsu
  replace hms := hpk
  replace hfr : FR w.heap.size [[b9]] := hfr.pick [some 0] _ rfl
  clear hpk hsu
  obtain ⟨d20, hd20, h20⟩ := bind_some h
  obtain ⟨m20, hd20⟩ := loop_some hd20
  refine c_loop (loop_rule hmx (σ := Nat × Int × Int) (fun s => match s with | (_, most_s8_l20, t53__s53_l20) => [(3, .pointer (some ⟨b9, 0, none⟩)), (6, .slice a0_16 (x15.1).length c0_16), (8, .int .i64 most_s8_l20), (9, .int .i64 0), (51, .slice a0_13 (x12.1).length c0_13), (52, .int .i64 ((x12.1).length : Int)), (53, .int .i64 t53__s53_l20)]) (fun s w' => match s with | (m, most_s8_l20, t53__s53_l20) => loopN (law11_JobChain_L20 x12) m (most_s8_l20, t53__s53_l20) = some d20 ∧ Ev [] w w' ∧ MS w' [[b9], M] ∧ FR w.heap.size [[b9]] ∧ SlR (eProd (eInt .i64) (eProd (eInt .i64) (eProd (eInt .i64) (eInt .i64)))) w' (fl [[b9], M]) a0_7 c0_7 x6.1.1 ∧ w'.heap[b9]? = some (.cells #[.slice a0_7 (x6.1.1).length c0_7, .int .i64 x6.1.2] 24 (0, 0)) ∧ SlR (eInt .i64) w' (fl [[b9], M]) a0_16 c0_16 x15.1 ∧ SlR (eInt .i64) w' (fl [[b9], M]) a0_13 c0_13 x12.1) (fun s => s.1) (m20, 0, 0) ⟨rfl, rfl, rfl, rfl, rfl, rfl, rfl, trivial⟩ ⟨hd20, hev, hms, hfr, hf7_1, hb9, hf16_1, hf13_1⟩ ?_)
  rintro ⟨m20, most_s8_l20, t53__s53_l20⟩ J wl20 ⟨hn20, hev, hms, hfr, hf7_1, hb9, hf16_1, hf13_1⟩
  rcases m20 with _ | m20
  · exact (loopN_zero hn20).elim
  obtain ⟨t20, h, hn20⟩ := bind_some hn20
  refine c_seq (c_plain ?_)
  refine x_pure 1 [(54, .bool (decide (t53__s53_l20 < ((x12.1).length : Int))))] _ _ _ (by kernel_rfl) ?_
  refine x_end rfl (k_then ?_)
  refine c_norm [(3, .pointer (some ⟨b9, 0, none⟩)), (6, .slice a0_16 (x15.1).length c0_16), (8, .int .i64 most_s8_l20), (9, .int .i64 0), (51, .slice a0_13 (x12.1).length c0_13), (52, .int .i64 ((x12.1).length : Int)), (53, .int .i64 t53__s53_l20), (54, .bool (decide (t53__s53_l20 < ((x12.1).length : Int))))] ⟨rfl, rfl, rfl, rfl, rfl, rfl, rfl, rfl, trivial⟩ (fun J => ?_)
  refine c_seq ?_
  refine c_cond (decide (t53__s53_l20 < ((x12.1).length : Int))) rfl (fun hb => ?_) (fun hb => ?_)
  · replace h := ite_t hb h
    refine c_skip ?_
    refine k_then ?_
    refine c_seq ?_
    refine c_block ?_
    refine c_seq (c_plain ?_)
    obtain ⟨x22, hx22, h⟩ := bind_some h
    obtain ⟨ad22, cs22, hr22, hc22, hR⟩ := reads_index (Mo := []) tsl27 hf13_1 hx22
    obtain rfl := hR
    refine x_indexAddr (xv := .slice a0_13 (x12.1).length c0_13) (yv := .int .i64 t53__s53_l20) (.pointer (some ad22)) rfl rfl rfl rfl hr22 ?_
    refine x_load (xv := .pointer (some ad22)) (.int .i64 x22) rfl rfl rfl (reads_cell0 tcell3 hc22 (fun _ h => by cases h)) ?_
    refine x_pure 1 [(11, .int .i64 x22)] _ _ _ (by kernel_rfl) ?_
    refine x_end rfl (k_then ?_)
    refine c_plain ?_
    refine x_pure 2 [(57, .int .i64 most_s8_l20), (58, .int .i64 x22)] _ _ _ (by kernel_rfl) ?_
    refine x_max (vs := [.int .i64 most_s8_l20, .int .i64 x22]) (.int .i64 (if x22 > most_s8_l20 then x22 else most_s8_l20)) rfl rfl rfl (fun _ _ => rfl) ?_
    refine x_pure 1 [(8, .int .i64 (if x22 > most_s8_l20 then x22 else most_s8_l20))] _ _ _ (by kernel_rfl) ?_
    refine x_end rfl ?_
    refine k_block ?_
    refine k_then ?_
    refine c_plain ?_
    refine x_pure 2 [(60, .int .i64 (IntKind.i64.wrap (t53__s53_l20 + 1))), (53, .int .i64 (IntKind.i64.wrap (t53__s53_l20 + 1)))] _ _ _ (by kernel_rfl) ?_
    refine x_end rfl ?_
    have hx := some_inj h
    subst hx
    exact k_then ⟨(m20, if x22 > most_s8_l20 then x22 else most_s8_l20, IntKind.i64.wrap (t53__s53_l20 + 1)), ⟨rfl, rfl, rfl, rfl, rfl, rfl, rfl, trivial⟩, ⟨hn20, hev, hms, hfr, hf7_1, hb9, hf16_1, hf13_1⟩, Nat.lt_succ_self _⟩
  replace h := ite_f hb h
  refine c_exit ?_
  refine k_then_exit ?_
  have hx := some_inj h
  subst hx
  have hy := some_inj hn20
  subst hy
  replace h := h20
  refine k_then_exit ?_
  refine k_block_in ?_
  refine k_then ?_
  refine c_norm [(3, .pointer (some ⟨b9, 0, none⟩)), (6, .slice a0_16 (x15.1).length c0_16), (8, .int .i64 most_s8_l20), (9, .int .i64 0)] ⟨rfl, rfl, rfl, rfl, trivial⟩ (fun J => ?_)
  refine c_seq ?_
  refine c_seq (c_plain ?_)
  refine x_pure 1 [(12, .int .i64 1)] _ _ _ (by kernel_rfl) ?_
  refine x_end rfl (k_then ?_)
  refine c_block ?_
  obtain ⟨d25, hd25, h25⟩ := bind_some h
  obtain ⟨m25, hd25⟩ := loop_some hd25
  refine c_loop (loop_rule hmx (σ := Nat × Int × Int) (fun s => match s with | (_, strict_s9_l25, i_s12_l25) => [(3, .pointer (some ⟨b9, 0, none⟩)), (6, .slice a0_16 (x15.1).length c0_16), (8, .int .i64 most_s8_l20), (9, .int .i64 strict_s9_l25), (12, .int .i64 i_s12_l25)]) (fun s w' => match s with | (m, strict_s9_l25, i_s12_l25) => loopN (law11_JobChain_L25 x6 x15) m (strict_s9_l25, i_s12_l25) = some d25 ∧ Ev [] w w' ∧ MS w' [[b9], M] ∧ FR w.heap.size [[b9]] ∧ SlR (eProd (eInt .i64) (eProd (eInt .i64) (eProd (eInt .i64) (eInt .i64)))) w' (fl [[b9], M]) a0_7 c0_7 x6.1.1 ∧ w'.heap[b9]? = some (.cells #[.slice a0_7 (x6.1.1).length c0_7, .int .i64 x6.1.2] 24 (0, 0)) ∧ SlR (eInt .i64) w' (fl [[b9], M]) a0_16 c0_16 x15.1) (fun s => s.1) (m25, 0, 1) ⟨rfl, rfl, rfl, rfl, rfl, trivial⟩ ⟨hd25, hev, hms, hfr, hf7_1, hb9, hf16_1⟩ ?_)
  rintro ⟨m25, strict_s9_l25, i_s12_l25⟩ J wl25 ⟨hn25, hev, hms, hfr, hf7_1, hb9, hf16_1⟩
  rcases m25 with _ | m25
  · exact (loopN_zero hn25).elim
  obtain ⟨t25, h, hn25⟩ := bind_some hn25
  refine c_seq ?_
  refine c_seq (c_plain ?_)
  refine x_pure 2 [(61, .int .i64 i_s12_l25), (62, .slice a0_16 (x15.1).length c0_16)] _ _ _ (by kernel_rfl) ?_
  refine x_len (vs := [.slice a0_16 (x15.1).length c0_16]) (.int .i64 ((x15.1).length : Int)) rfl rfl rfl (reads_len tsl27 _ _ _ _ _) ?_
  refine x_pure 1 [(64, .bool (decide (i_s12_l25 < ((x15.1).length : Int))))] _ _ _ (by kernel_rfl) ?_
  refine x_end rfl (k_then ?_)
  refine c_norm [(3, .pointer (some ⟨b9, 0, none⟩)), (6, .slice a0_16 (x15.1).length c0_16), (8, .int .i64 most_s8_l20), (9, .int .i64 strict_s9_l25), (12, .int .i64 i_s12_l25), (64, .bool (decide (i_s12_l25 < ((x15.1).length : Int))))] ⟨rfl, rfl, rfl, rfl, rfl, rfl, trivial⟩ (fun J => ?_)
  refine c_cond (decide (i_s12_l25 < ((x15.1).length : Int))) rfl (fun hb => ?_) (fun hb => ?_)
  · replace h := ite_t hb h
    refine c_skip ?_
    refine k_then ?_
    refine c_seq ?_
    refine c_block ?_
    refine c_seq ?_
    refine c_drawn [] [(0, false), (1, false), (2, false), (3, false), (4, false), (5, false), (6, false), (7, false), (8, false), (9, false), (10, false), (11, false), (12, false), (13, false), (14, false), (15, false)] _ (by kernel_rfl) rfl ?_
    have hst := Stp.ext (ls := [[b9], M]) (Ev.drew wl25)
    replace hb9 := (Ev.drew wl25).box hb9 nn
    replace hf7_1 := hf7_1.step hst
    replace hf16_1 := hf16_1.step hst
    replace hms := hms.ev (Ev.drew wl25)
    replace hev := hev.ext (Ev.drew wl25)
    refine x_load (xv := .pointer (some ⟨b9, 0, none⟩)) (.agg #[.slice a0_7 (x6.1.1).length c0_7, .int .i64 x6.1.2]) rfl rfl rfl (reads_boxagg 0 [.slice a0_7 (x6.1.1).length c0_7, .int .i64 x6.1.2] tagg24 hb9 nn rfl) ?_
    refine x_pure 3 [(69, .slice a0_16 (x15.1).length c0_16), (70, .int .i64 i_s12_l25), (71, .int .i64 (IntKind.i64.wrap (i_s12_l25 - 1)))] _ _ _ (by kernel_rfl) ?_
    obtain ⟨x27, hx27, h⟩ := bind_some h
    obtain ⟨ad27, cs27, hr27, hc27, hR⟩ := reads_index (Mo := []) tsl27 hf16_1 hx27
    obtain rfl := hR
    refine x_indexAddr (xv := .slice a0_16 (x15.1).length c0_16) (yv := .int .i64 (IntKind.i64.wrap (i_s12_l25 - 1))) (.pointer (some ad27)) rfl rfl rfl rfl hr27 ?_
    refine x_load (xv := .pointer (some ad27)) (.int .i64 x27) rfl rfl rfl (reads_cell0 tcell3 hc27 (fun _ h => by cases h)) ?_
    refine x_pure 2 [(74, .slice a0_16 (x15.1).length c0_16), (75, .int .i64 i_s12_l25)] _ _ _ (by kernel_rfl) ?_
    obtain ⟨x29, hx29, h⟩ := bind_some h
    obtain ⟨ad29, cs29, hr29, hc29, hR⟩ := reads_index (Mo := []) tsl27 hf16_1 hx29
    obtain rfl := hR
    refine x_indexAddr (xv := .slice a0_16 (x15.1).length c0_16) (yv := .int .i64 i_s12_l25) (.pointer (some ad29)) rfl rfl rfl rfl hr29 ?_
    refine x_load (xv := .pointer (some ad29)) (.int .i64 x29) rfl rfl rfl (reads_cell0 tcell3 hc29 (fun _ h => by cases h)) ?_
    obtain ⟨x31, hx, h⟩ := bind_some h
    have hpk : MS (wl25).drew ([] ++ [[b9], M]) := hms.pick [some 0, some 1] _ rfl
    have hsb0 : ∀ x ∈ fl ([] ++ [[b9], M]), x ∈ fl [[b9], M] := pick_sub [some 0, some 1] _ rfl
    have hsb : ∀ x ∈ fl ([] ++ [(fl [[b9], M])]), x ∈ fl [[b9], M] := fun x hx => hsb0 x (fl_unfold x hx)
    have hcall := job_Relation_w a0_7 c0_7 x6.1.1 x6.1.2 x27 x29 _ (wl25).drew (fl [[b9], M]) (MS.fold (P := []) hpk) (hf7_1.sub hsb) hx
    refine x_call 23 #[] #[] [.agg #[.slice a0_7 (x6.1.1).length c0_7, .int .i64 x6.1.2], .int .i64 x27, .int .i64 x29] _ rfl rfl rfl rfl hcall ?_
    rintro v w32 ⟨rfl, he32⟩
    clear hcall hx
    refine ⟨.inr he32, ?_⟩
    have hst := Stp.ext (ls := [[b9], M]) he32
    replace hb9 := he32.box hb9 nn
    replace hf7_1 := hf7_1.step hst
    replace hf16_1 := hf16_1.step hst
    replace hc27 := hc27.step hst
    replace hc29 := hc29.step hst
    replace hms := hms.ev he32
    replace hev := hev.ext he32
    clear hpk hsb hsb0
    refine x_pure 5 [(67, .tuple #[.int .i64 x31.1, .int .i64 x31.2]), (79, .int .i64 x31.1), (80, .int .i64 x31.2), (13, .int .i64 x31.1), (14, .int .i64 x31.2)] _ _ _ (by kernel_rfl) ?_
    refine x_end rfl (k_then ?_)
    refine c_norm [(3, .pointer (some ⟨b9, 0, none⟩)), (6, .slice a0_16 (x15.1).length c0_16), (8, .int .i64 most_s8_l20), (9, .int .i64 strict_s9_l25), (12, .int .i64 i_s12_l25), (13, .int .i64 x31.1), (14, .int .i64 x31.2)] ⟨rfl, rfl, rfl, rfl, rfl, rfl, rfl, trivial⟩ (fun J => ?_)
    refine c_seq ?_
    refine c_seq (c_plain ?_)
    refine x_pure 3 [(81, .int .i64 x31.2), (82, .bool (x31.2 != 0)), (83, .bool (x31.2 != 0))] _ _ _ (by kernel_rfl) ?_
    refine x_split 83 (x31.2 != 0) rfl (fun hb => ?_) (fun hb => ?_)
    · replace h := ite_t hb h
      refine x_pure 3 [(84, undef), (85, undef), (86, .bool true)] _ _ _ (by kernel_rfl) ?_
      refine x_end rfl (k_then ?_)
      refine c_true rfl ?_
      refine c_seq (c_plain ?_)
      refine x_pure 1 [(2, .bool false)] _ _ _ (by kernel_rfl) ?_
      refine x_end rfl (k_then ?_)
      refine c_ret ?_
      refine k_then_ret ?_
      refine k_block_ret ?_
      refine k_then_ret ?_
      have hx := some_inj h
      subst hx
      have hy := some_inj hn25
      subst hy
      replace h := h25
      refine k_then_ret ?_
      refine k_block_ret ?_
      refine k_then_ret ?_
      refine r_ret (r_vals [.bool false] ⟨rfl, trivial⟩ ?_)
      have hx := some_inj h
      subst hx
      have hmr : MS w32 [M] := hms.pick [some 1] _ rfl
      have hsu : ∀ x ∈ fl [M], x ∈ fl [[b9], M] := pick_sub [some 1] _ rfl
      exact ⟨rfl, hev⟩
    replace h := ite_f hb h
    refine x_pure 3 [(84, .int .i64 x31.1), (85, .bool (x31.1 == 0)), (86, .bool (x31.1 == 0))] _ _ _ (by kernel_rfl) ?_
    refine x_end rfl (k_then ?_)
    refine c_cond (x31.1 == 0) rfl (fun hb => ?_) (fun hb => ?_)
    · replace h := ite_t hb h
      refine c_seq (c_plain ?_)
      refine x_pure 1 [(2, .bool false)] _ _ _ (by kernel_rfl) ?_
      refine x_end rfl (k_then ?_)
      refine c_ret ?_
      refine k_then_ret ?_
      refine k_block_ret ?_
      refine k_then_ret ?_
      have hx := some_inj h
      subst hx
      have hy := some_inj hn25
      subst hy
      replace h := h25
      refine k_then_ret ?_
      refine k_block_ret ?_
      refine k_then_ret ?_
      refine r_ret (r_vals [.bool false] ⟨rfl, trivial⟩ ?_)
      have hx := some_inj h
      subst hx
      have hmr : MS w32 [M] := hms.pick [some 1] _ rfl
      have hsu : ∀ x ∈ fl [M], x ∈ fl [[b9], M] := pick_sub [some 1] _ rfl
      exact ⟨rfl, hev⟩
    replace h := ite_f hb h
    refine c_skip ?_
    refine k_then ?_
    refine c_plain ?_
    refine x_pure 5 [(87, .int .i64 strict_s9_l25), (88, .int .i64 x31.1), (89, .int .i64 (IntKind.i64.wrap (x31.1 - 1))), (90, .int .i64 (IntKind.i64.wrap (strict_s9_l25 + (IntKind.i64.wrap (x31.1 - 1))))), (9, .int .i64 (IntKind.i64.wrap (strict_s9_l25 + (IntKind.i64.wrap (x31.1 - 1)))))] _ _ _ (by kernel_rfl) ?_
    refine x_end rfl ?_
    refine k_block ?_
    refine k_then ?_
    refine c_plain ?_
    refine x_pure 3 [(65, .int .i64 i_s12_l25), (66, .int .i64 (IntKind.i64.wrap (i_s12_l25 + 1))), (12, .int .i64 (IntKind.i64.wrap (i_s12_l25 + 1)))] _ _ _ (by kernel_rfl) ?_
    refine x_end rfl ?_
    have hx := some_inj h
    subst hx
    exact k_then ⟨(m25, IntKind.i64.wrap (strict_s9_l25 + (IntKind.i64.wrap (x31.1 - 1))), IntKind.i64.wrap (i_s12_l25 + 1)), ⟨rfl, rfl, rfl, rfl, rfl, trivial⟩, ⟨hn25, hev, hms, hfr, hf7_1, hb9, hf16_1⟩, Nat.lt_succ_self _⟩
  replace h := ite_f hb h
  refine c_exit ?_
  refine k_then_exit ?_
  have hx := some_inj h
  subst hx
  have hy := some_inj hn25
  subst hy
  replace h := h25
  refine k_then_exit ?_
  refine k_block_in ?_
  refine k_then ?_
  refine c_norm [(8, .int .i64 most_s8_l20), (9, .int .i64 strict_s9_l25)] ⟨rfl, rfl, trivial⟩ (fun J => ?_)
  refine c_seq (c_plain ?_)
  refine x_pure 4 [(91, .int .i64 strict_s9_l25), (92, .int .i64 most_s8_l20), (93, .bool (strict_s9_l25 == most_s8_l20)), (94, .bool (strict_s9_l25 == most_s8_l20))] _ _ _ (by kernel_rfl) ?_
  refine x_split 94 (strict_s9_l25 == most_s8_l20) rfl (fun hb => ?_) (fun hb => ?_)
  · replace h := ite_t hb h
    obtain ⟨x33, hx, h⟩ := bind_some h
    have hcall := law11_sane_w _ wl25 hx
    refine x_call 12 #[] #[] [] _ rfl rfl rfl rfl hcall ?_
    rintro v w34 ⟨rfl, he34⟩
    clear hcall hx
    refine ⟨.inl rfl, ?_⟩
    have hst := Stp.ext (ls := [[b9], M]) he34
    replace hb9 := he34.box hb9 nn
    replace hf7_1 := hf7_1.step hst
    replace hms := hms.ev he34
    replace hev := hev.ext he34
    refine x_pure 2 [(96, .bool x33), (2, .bool x33)] _ _ _ (by kernel_rfl) ?_
    refine x_end rfl (k_then ?_)
    refine c_ret ?_
    refine r_ret (r_vals [.bool x33] ⟨rfl, trivial⟩ ?_)
    have hx := some_inj h
    subst hx
    have hmr : MS w34 [M] := hms.pick [some 1] _ rfl
    have hsu : ∀ x ∈ fl [M], x ∈ fl [[b9], M] := pick_sub [some 1] _ rfl
    exact ⟨rfl, hev⟩
  replace h := ite_f hb h
  refine x_pure 3 [(95, undef), (96, .bool false), (2, .bool false)] _ _ _ (by kernel_rfl) ?_
  refine x_end rfl (k_then ?_)
  refine c_ret ?_
  refine r_ret (r_vals [.bool false] ⟨rfl, trivial⟩ ?_)
  have hx := some_inj h
  subst hx
  have hmr : MS wl25 [M] := hms.pick [some 1] _ rfl
  have hsu : ∀ x ∈ fl [M], x ∈ fl [[b9], M] := pick_sub [some 1] _ rfl
  exact ⟨rfl, hev⟩
end Go.Proofs.Ytacimonplnlmgaa
