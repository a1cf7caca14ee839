/- Walks, printed by program: each function returns what the partial function of the same name returns. Conditions: those of each theorem. -/
import Derived.Test.YtacimonplnlmgaaGT
import Derived.Test.YtacimonplnlmgaaGgen
import Derived.Test.YtacimonplnlmgaaGjob
import Derived.Test.YtacimonplnlmgaaGlaw11sane
set_option linter.unusedVariables false
set_option linter.unusedSimpArgs false
set_option maxRecDepth 4000
namespace Go.Proofs.Ytacimonplnlmgaa
open Go Go.V Go.Proofs
def law11_JobLevels_L18 (x6 : ((List (Int × Int × Int × Int)) × Int) × Int) (x12 : (List Int) × Int) (t31__s31_l16 : Int) (s : Int × Int) : Option (Step (Int × Int) (Unit ⊕ Int)) :=
match s with
| (need_s7_l18, t36__s36_l18) =>
(if (decide (t36__s36_l18 < ((x12.1).length : Int))) = true then
((job_Relation x6.1.1 x6.1.2 t36__s36_l18 t31__s31_l16).bind fun x20 =>
(if (x20.2 != 0) = true then
some (.done (.inl ()))
else
(if (decide (x20.1 > 0)) = true then
((idx x12.1 t36__s36_l18).bind fun x23 =>
some (.next (if (IntKind.i64.wrap ((IntKind.i64.wrap (x23 + x20.1)) - 1)) > need_s7_l18 then (IntKind.i64.wrap ((IntKind.i64.wrap (x23 + x20.1)) - 1)) else need_s7_l18, IntKind.i64.wrap (t36__s36_l18 + 1))))
else
some (.next (need_s7_l18, IntKind.i64.wrap (t36__s36_l18 + 1))))))
else
some (.done (.inr need_s7_l18)))

def law11_JobLevels_L16 (x6 : ((List (Int × Int × Int × Int)) × Int) × Int) (x12 : (List Int) × Int) (s : Int) : Option (Step Int (Unit ⊕ Unit)) :=
match s with
| t31__s31_l16 =>
(if (decide (t31__s31_l16 < ((x12.1).length : Int))) = true then
((loop (law11_JobLevels_L18 x6 x12 t31__s31_l16) (0, 0)).bind fun d => match d with
| (.inl _) => some (.done (.inl ()))
| (.inr need_s7_x1801) => ((idx x12.1 t31__s31_l16).bind fun x25 =>
(if (x25 != need_s7_x1801) = true then
some (.done (.inl ()))
else
some (.next (IntKind.i64.wrap (t31__s31_l16 + 1))))))
else
some (.done (.inr ())))

def law11_JobLevels (p0 : List Int) : Option Bool :=
((gen_New p0).bind fun x2 =>
((gen_Maker_Job x2.1 x2.2 14).bind fun x6 =>
((job_Levels x6.1.1 x6.1.2).bind fun x12 =>
(if (x12.2 != 0) = true then
some false
else
(if (((x12.1).length : Int) != ((x6.1.1).length : Int)) = true then
some false
else
((loop (law11_JobLevels_L16 x6 x12) 0).bind fun d => match d with
| (.inl _) => some false
| (.inr _) => ((law11_sane).bind fun x27 =>
some x27)))))))

theorem law11_JobLevels_w (a_p0 : Option Addr) (c_p0 : Nat) (p0 : List Int) (r : Bool) (w : World) (M : List Nat) (hms : MS w [M]) (hs_p0 : SlR (eInt .i64) w (fl [M]) a_p0 c_p0 p0) (h : law11_JobLevels p0 = some r) : CallVC Try.prog 8 [.slice a_p0 (p0).length c_p0] w fun v w' => v = .bool r ∧ Ev [] w w' := by
  refine calls_vc hmx Try.func8 (by kernel_rfl) rfl (rs := [.tmp 2]) rfl (by kernel_rfl) (args := [.slice a_p0 (p0).length c_p0]) rfl ?_
  have hev : Ev [] w w := Ev.refl _ _
  have hfr : FR w.heap.size [] := FR.nil _
  refine c_seq (c_plain ?_)
  refine x_pure 1 [(2, .bool false)] _ _ _ (by kernel_rfl) ?_
  refine x_end rfl (k_then ?_)
  refine c_seq (c_plain ?_)
  refine x_pure 1 [(11, .slice a_p0 (p0).length c_p0)] _ _ _ (by kernel_rfl) ?_
  obtain ⟨x2, hx, h⟩ := bind_some h
  have hpk : MS w ([] ++ [M]) := hms.pick [some 0] _ rfl
  have hsb0 : ∀ x ∈ fl ([] ++ [M]), x ∈ fl [M] := pick_sub [some 0] _ rfl
  have hsb : ∀ x ∈ fl ([] ++ [(fl [M])]), x ∈ fl [M] := fun x hx => hsb0 x (fl_unfold x hx)
  have hcall := gen_New_w a_p0 c_p0 p0 _ w (fl [M]) (MS.fold (P := []) hpk) (hs_p0.sub hsb) hx
  refine x_call 13 #[] #[] [.slice a_p0 (p0).length c_p0] _ rfl rfl rfl rfl hcall ?_
  rintro v w3 ⟨b0_3, a1_3, c1_3, rfl, he3, hmn3, hfn3, hf3_1, hf3_2⟩
  clear hcall hx
  refine ⟨.inl rfl, ?_⟩
  have hpk2 : MS w ([] ++ [M]) := hms.pick [some 0] _ rfl
  have hsb2 : ∀ x ∈ fl ([] ++ [M]), x ∈ fl [M] := pick_sub [some 0] _ rfl
  have hst0 := Stp.call (LS := [M]) (res := [[b0_3]]) (par := []) (R := [M]) he3 (fun b hb => hsb2 b (fl_left' (P := []) b hb)) hfn3 (NP.init _ _) (fun x hx => hsb2 x (fl_right' (P := []) x hx))
  have hsn : ∀ x ∈ fl [[b0_3], M], x ∈ fl ([[b0_3]] ++ ([] ++ [M])) := pick_sub [some 0, some 1] _ rfl
  have hst := hst0.res hsn
  replace hs_p0 := hs_p0.step hst
  replace hms : MS w3 [[b0_3], M] := (MS.call (P := []) (R := [M]) (res := [[b0_3]]) (par := []) hpk2 he3 hmn3 hfn3 (NP.init _ _)).pick [some 0, some 1] _ rfl
  have hfr2 : FR w.heap.size [[b0_3]] := (FR.cons (fun b hb => Nat.le_trans hev.size (hfn3.at 0 rfl b hb)) (FR.nil _))
  replace hev := hev.ext he3
  replace hfr := hfr2
  clear hfr2
  have hsp : ∀ x ∈ fl [[b0_3], M], x ∈ fl ([[b0_3]] ++ ([] ++ [(fl [M])])) := fun x hx => fl_tot (res := [[b0_3]]) (par := []) (R := [M]) x (hsn x hx)
  replace hf3_2 := hf3_2.sub hsp
  clear hpk hsb hsb0 hpk2 hsb2 hst0 hsn hst
  obtain ⟨x6, hx, h⟩ := bind_some h
  have hpk : MS w3 ([[b0_3]] ++ [M]) := hms.pick [some 0, some 1] _ rfl
  have hsb0 : ∀ x ∈ fl ([[b0_3]] ++ [M]), x ∈ fl [[b0_3], M] := pick_sub [some 0, some 1] _ rfl
  have hsb : ∀ x ∈ fl ([[b0_3]] ++ [(fl [M])]), x ∈ fl [[b0_3], M] := fun x hx => hsb0 x (fl_unfold x hx)
  have hcall := gen_Maker_Job_w b0_3 a1_3 c1_3 x2.1 x2.2 14 _ w3 (fl [M]) (hpk.fold (P := [[b0_3]])) (hf3_2.sub hsb) hf3_1 hx
  refine x_call 14 #[] #[] [.pointer (some ⟨b0_3, 0, none⟩), .int .i64 14] _ rfl rfl rfl rfl hcall ?_
  rintro v w7 ⟨a0_7, c0_7, rfl, he7, hp7_0, hmn7, hfn7, hf7_1⟩
  clear hcall hx
  refine ⟨.inl rfl, ?_⟩
  have hpk2 : MS w3 ([[b0_3]] ++ [M]) := hms.pick [some 0, some 1] _ rfl
  have hsb2 : ∀ x ∈ fl ([[b0_3]] ++ [M]), x ∈ fl [[b0_3], M] := pick_sub [some 0, some 1] _ rfl
  have hst0 := Stp.call (LS := [[b0_3], M]) (res := [blk a0_7]) (par := [[b0_3]]) (R := [M]) he7 (fun b hb => hsb2 b (fl_left' (P := [[b0_3]]) b hb)) hfn7 (NP.init _ _) (fun x hx => hsb2 x (fl_right' (P := [[b0_3]]) x hx))
  have hsn : ∀ x ∈ fl [blk a0_7, [b0_3], M], x ∈ fl ([blk a0_7] ++ ([[b0_3]] ++ [M])) := pick_sub [some 0, some 1, some 2] _ rfl
  have hst := hst0.res hsn
  replace hs_p0 := hs_p0.step hst
  replace hf3_2 := hf3_2.step hst
  replace hms : MS w7 [blk a0_7, [b0_3], M] := (MS.call (P := [[b0_3]]) (R := [M]) (res := [blk a0_7]) (par := [[b0_3]]) hpk2 he7 hmn7 hfn7 (NP.init _ _)).pick [some 0, some 1, some 2] _ rfl
  have hPf : ∀ b ∈ fl [[b0_3]], w.heap.size ≤ b := FR.mem (ls := [[b0_3]]) (hfr.pick [some 0] _ rfl)
  have hfr2 : FR w.heap.size [blk a0_7, [b0_3]] := (FR.cons (fun b hb => Nat.le_trans hev.size (hfn7.at 0 rfl b hb)) (FR.cons (hfr.at 0 rfl) (FR.nil _)))
  replace hev := hev.then he7 (fun b hb => .inr (hPf b hb))
  replace hfr := hfr2
  clear hfr2
  replace hf3_1 := hp7_0
  replace hf7_1 := OwnS.plain (M' := fl [blk a0_7, [b0_3], M]) (plain_prod (plain_int _) (plain_prod (plain_int _) (plain_prod (plain_int _) (plain_int _)))) hf7_1
  clear hpk hsb hsb0 hpk2 hsb2 hst0 hsn hst
  have hpk : MS w7 [[b0_3], M] := hms.pick [some 1, some 2] _ rfl
  have hsu : ∀ x ∈ fl [[b0_3], M], x ∈ fl [blk a0_7, [b0_3], M] := pick_sub [some 1, some 2] _ rfl
  replace hs_p0 := hs_p0.sub hsu
  replace hf3_2 := hf3_2.sub hsu
  replace hf7_1 := hf7_1.ro hsu (pick_out hms 0 rfl [some 1, some 2] [[b0_3], M] rfl rfl)
  replace hms := hpk
  replace hfr : FR w.heap.size [[b0_3]] := hfr.pick [some 1] _ rfl
  clear hpk hsu
  refine x_alloc (z := .agg #[.slice none 0 0, .int .i64 0]) rfl rfl (by kernel_rfl) (fun b9 w9 hq9 hb9 he9 hz9 => ?_)
  replace hb9 : w9.heap[b9]? = some (.cells #[.slice none 0 0, .int .i64 0] 24 (0, 0)) := hb9
  refine ⟨.inl rfl, ?_⟩
  have hst := Stp.box (ls := [[b0_3], M]) he9 hq9
  replace hs_p0 := hs_p0.step hst
  replace hf3_1 := he9.box hf3_1 nn
  replace hf3_2 := hf3_2.step hst
  replace hf7_1 := hf7_1.step hst
  replace hms := hms.box he9 hq9 hb9
  replace hfr := hfr.box hev.size hq9
  replace hev := hev.ext he9
  obtain ⟨w11, hr11, hb11, he11⟩ := store_boxagg 0 [.slice a0_7 (x6.1.1).length c0_7, .int .i64 x6.1.2] #[.slice a0_7 (x6.1.1).length c0_7, .int .i64 x6.1.2] tagg24 hb9 rfl rfl rfl
  refine x_store w11 (xv := .pointer (some ⟨b9, 0, none⟩)) (yv := .agg #[.slice a0_7 (x6.1.1).length c0_7, .int .i64 x6.1.2]) rfl rfl rfl rfl hr11 ?_
  refine ⟨.inl rfl, ?_⟩
  have hst := Stp.ev' (ls := [[b9], [b0_3], M]) he11 (mem_flat 0 rfl)
  replace hs_p0 := hs_p0.step hst
  replace hf3_1 := he11.box hf3_1 (hms.apart 1 0 rfl rfl rfl _ (List.mem_singleton.2 rfl))
  replace hf3_2 := hf3_2.step hst
  replace hf7_1 := hf7_1.step hst
  replace hms := hms.ev he11
  replace hev := hev.then he11 (fun b hb => .inr (hfr.at 0 rfl b hb))
  replace hb9 := hb11
  refine x_end rfl (k_then ?_)
  refine c_seq (c_plain ?_)
  refine x_load (xv := .pointer (some ⟨b9, 0, none⟩)) (.agg #[.slice a0_7 (x6.1.1).length c0_7, .int .i64 x6.1.2]) rfl rfl rfl (reads_boxagg 0 [.slice a0_7 (x6.1.1).length c0_7, .int .i64 x6.1.2] tagg24 hb9 nn rfl) ?_
  obtain ⟨x12, hx, h⟩ := bind_some h
  have hpk : MS w11 ([] ++ [[b9], [b0_3], M]) := hms.pick [some 0, some 1, some 2] _ rfl
  have hsb0 : ∀ x ∈ fl ([] ++ [[b9], [b0_3], M]), x ∈ fl [[b9], [b0_3], M] := pick_sub [some 0, some 1, some 2] _ rfl
  have hsb : ∀ x ∈ fl ([] ++ [(fl [[b9], [b0_3], M])]), x ∈ fl [[b9], [b0_3], M] := fun x hx => hsb0 x (fl_unfold x hx)
  have hcall := job_Levels_w a0_7 c0_7 x6.1.1 x6.1.2 _ w11 (fl [[b9], [b0_3], M]) (MS.fold (P := []) hpk) (hf7_1.sub hsb) hx
  refine x_call 10 #[] #[] [.agg #[.slice a0_7 (x6.1.1).length c0_7, .int .i64 x6.1.2]] _ rfl rfl rfl rfl hcall ?_
  rintro v w13 ⟨a0_13, c0_13, rfl, he13, hmn13, hfn13, hf13_1⟩
  clear hcall hx
  refine ⟨.inl rfl, ?_⟩
  have hpk2 : MS w11 ([] ++ [[b9], [b0_3], M]) := hms.pick [some 0, some 1, some 2] _ rfl
  have hsb2 : ∀ x ∈ fl ([] ++ [[b9], [b0_3], M]), x ∈ fl [[b9], [b0_3], M] := pick_sub [some 0, some 1, some 2] _ rfl
  have hst0 := Stp.call (LS := [[b9], [b0_3], M]) (res := [blk a0_13]) (par := []) (R := [[b9], [b0_3], M]) he13 (fun b hb => hsb2 b (fl_left' (P := []) b hb)) hfn13 (NP.init _ _) (fun x hx => hsb2 x (fl_right' (P := []) x hx))
  have hsn : ∀ x ∈ fl [blk a0_13, [b9], [b0_3], M], x ∈ fl ([blk a0_13] ++ ([] ++ [[b9], [b0_3], M])) := pick_sub [some 0, some 1, some 2, some 3] _ rfl
  have hst := hst0.res hsn
  replace hf3_1 := he13.box hf3_1 ((MS.outs (P := []) hpk2 1 rfl) _ (List.mem_singleton.2 rfl))
  replace hf3_2 := hf3_2.step hst
  replace hf7_1 := hf7_1.step hst
  replace hb9 := he13.box hb9 ((MS.outs (P := []) hpk2 0 rfl) _ (List.mem_singleton.2 rfl))
  replace hms : MS w13 [blk a0_13, [b9], [b0_3], M] := (MS.call (P := []) (R := [[b9], [b0_3], M]) (res := [blk a0_13]) (par := []) hpk2 he13 hmn13 hfn13 (NP.init _ _)).pick [some 0, some 1, some 2, some 3] _ rfl
  have hfr2 : FR w.heap.size [blk a0_13, [b9], [b0_3]] := (FR.cons (fun b hb => Nat.le_trans hev.size (hfn13.at 0 rfl b hb)) (FR.cons (hfr.at 0 rfl) (FR.cons (hfr.at 1 rfl) (FR.nil _))))
  replace hev := hev.ext he13
  replace hfr := hfr2
  clear hfr2
  replace hf13_1 := OwnS.plain (M' := fl [blk a0_13, [b9], [b0_3], M]) (plain_int _) hf13_1
  clear hpk hsb hsb0 hpk2 hsb2 hst0 hsn hst
  have hpk : MS w13 [[b9], [b0_3], M] := hms.pick [some 1, some 2, some 3] _ rfl
  have hsu : ∀ x ∈ fl [[b9], [b0_3], M], x ∈ fl [blk a0_13, [b9], [b0_3], M] := pick_sub [some 1, some 2, some 3] _ rfl
  replace hf3_2 := hf3_2.sub hsu
  replace hf7_1 := hf7_1.sub hsu
  replace hf13_1 := hf13_1.ro hsu (pick_out hms 0 rfl [some 1, some 2, some 3] [[b9], [b0_3], M] rfl rfl)
  replace hms := hpk
  replace hfr : FR w.heap.size [[b9], [b0_3]] := hfr.pick [some 1, some 2] _ rfl
  clear hpk hsu
  refine x_pure 5 [(14, .tuple #[.slice a0_13 (x12.1).length c0_13, .int .i64 x12.2]), (17, .slice a0_13 (x12.1).length c0_13), (18, .int .i64 x12.2), (4, .slice a0_13 (x12.1).length c0_13), (5, .int .i64 x12.2)] _ _ _ (by kernel_rfl) ?_
  refine x_end rfl (k_then ?_)
  refine c_seq ?_
  refine c_seq (c_plain ?_)
  refine x_pure 3 [(19, .int .i64 x12.2), (20, .bool (x12.2 != 0)), (21, .bool (x12.2 != 0))] _ _ _ (by kernel_rfl) ?_
  refine x_split 21 (x12.2 != 0) rfl (fun hb => ?_) (fun hb => ?_)
  · replace h := ite_t hb h
    refine x_pure 7 [(22, undef), (23, undef), (24, undef), (25, undef), (26, undef), (27, undef), (28, .bool true)] _ _ _ (by kernel_rfl) ?_
    refine x_end rfl (k_then ?_)
    refine c_norm [(3, .pointer (some ⟨b9, 0, none⟩)), (4, .slice a0_13 (x12.1).length c0_13), (28, .bool true)] ⟨rfl, rfl, rfl, trivial⟩ (fun J => ?_)
    refine c_true rfl ?_
    refine c_seq (c_plain ?_)
    refine x_pure 1 [(2, .bool false)] _ _ _ (by kernel_rfl) ?_
    refine x_end rfl (k_then ?_)
    refine c_ret ?_
    refine k_then_ret ?_
    refine r_ret (r_vals [.bool false] ⟨rfl, trivial⟩ ?_)
    have hx := some_inj h
    subst hx
    have hmr : MS w13 [M] := hms.pick [some 2] _ rfl
    have hsu : ∀ x ∈ fl [M], x ∈ fl [[b9], [b0_3], M] := pick_sub [some 2] _ rfl
    exact ⟨rfl, hev⟩
  replace h := ite_f hb h
  refine x_pure 1 [(22, .slice a0_13 (x12.1).length c0_13)] _ _ _ (by kernel_rfl) ?_
  refine x_len (vs := [.slice a0_13 (x12.1).length c0_13]) (.int .i64 ((x12.1).length : Int)) rfl rfl rfl (reads_len tsl27 _ _ _ _ _) ?_
  refine x_fieldAddr (xv := .pointer (some ⟨b9, 0, none⟩)) (.pointer (some ⟨b9, 0, none⟩)) rfl rfl rfl (reads_field tfld24_0 _ _) ?_
  refine x_load (xv := .pointer (some ⟨b9, 0, none⟩)) (.slice a0_7 (x6.1.1).length c0_7) rfl rfl rfl (reads_box tcell22 hb9 nn 0 _ rfl) ?_
  refine x_len (vs := [.slice a0_7 (x6.1.1).length c0_7]) (.int .i64 ((x6.1.1).length : Int)) rfl rfl rfl (reads_len tsl22 _ _ _ _ _) ?_
  refine x_pure 2 [(27, .bool (((x12.1).length : Int) != ((x6.1.1).length : Int))), (28, .bool (((x12.1).length : Int) != ((x6.1.1).length : Int)))] _ _ _ (by kernel_rfl) ?_
  refine x_end rfl (k_then ?_)
  refine c_norm [(3, .pointer (some ⟨b9, 0, none⟩)), (4, .slice a0_13 (x12.1).length c0_13), (28, .bool (((x12.1).length : Int) != ((x6.1.1).length : Int)))] ⟨rfl, rfl, rfl, trivial⟩ (fun J => ?_)
  refine c_cond (((x12.1).length : Int) != ((x6.1.1).length : Int)) rfl (fun hb => ?_) (fun hb => ?_)
  · replace h := ite_t hb h
    refine c_seq (c_plain ?_)
    refine x_pure 1 [(2, .bool false)] _ _ _ (by kernel_rfl) ?_
    refine x_end rfl (k_then ?_)
    refine c_ret ?_
    refine k_then_ret ?_
    refine r_ret (r_vals [.bool false] ⟨rfl, trivial⟩ ?_)
    have hx := some_inj h
    subst hx
    have hmr : MS w13 [M] := hms.pick [some 2] _ rfl
    have hsu : ∀ x ∈ fl [M], x ∈ fl [[b9], [b0_3], M] := pick_sub [some 2] _ rfl
    exact ⟨rfl, hev⟩
  replace h := ite_f hb h
  refine c_skip ?_
  refine k_then ?_
  refine c_seq ?_
  refine c_seq (c_plain ?_)
  refine x_pure 1 [(29, .slice a0_13 (x12.1).length c0_13)] _ _ _ (by kernel_rfl) ?_
  refine x_len (vs := [.slice a0_13 (x12.1).length c0_13]) (.int .i64 ((x12.1).length : Int)) rfl rfl rfl (reads_len tsl27 _ _ _ _ _) ?_
  refine x_pure 1 [(31, .int .i64 0)] _ _ _ (by kernel_rfl) ?_
  refine x_end rfl (k_then ?_)
  refine c_block ?_
  have hpk : MS w13 [[b9], M] := hms.pick [some 0, some 2] _ rfl
  have hsu : ∀ x ∈ fl [[b9], M], x ∈ fl [[b9], [b0_3], M] := pick_sub [some 0, some 2] _ rfl
  replace hf7_1 := hf7_1.sub hsu
  replace hf13_1 := hf13_1.sub hsu
  replace hms := hpk
  replace hfr : FR w.heap.size [[b9]] := hfr.pick [some 0] _ rfl
  clear hpk hsu
  obtain ⟨d16, hd16, h16⟩ := bind_some h
  obtain ⟨m16, hd16⟩ := loop_some hd16
  refine c_loop (loop_rule hmx (σ := Nat × Int) (fun s => match s with | (_, t31__s31_l16) => [(3, .pointer (some ⟨b9, 0, none⟩)), (4, .slice a0_13 (x12.1).length c0_13), (30, .int .i64 ((x12.1).length : Int)), (31, .int .i64 t31__s31_l16)]) (fun s w' => match s with | (m, t31__s31_l16) => loopN (law11_JobLevels_L16 x6 x12) m t31__s31_l16 = some d16 ∧ Ev [] w w' ∧ MS w' [[b9], M] ∧ FR w.heap.size [[b9]] ∧ SlR (eProd (eInt .i64) (eProd (eInt .i64) (eProd (eInt .i64) (eInt .i64)))) w' (fl [[b9], M]) a0_7 c0_7 x6.1.1 ∧ w'.heap[b9]? = some (.cells #[.slice a0_7 (x6.1.1).length c0_7, .int .i64 x6.1.2] 24 (0, 0)) ∧ SlR (eInt .i64) w' (fl [[b9], M]) a0_13 c0_13 x12.1) (fun s => s.1) (m16, 0) ⟨rfl, rfl, rfl, rfl, trivial⟩ ⟨hd16, hev, hms, hfr, hf7_1, hb9, hf13_1⟩ ?_)
  rintro ⟨m16, t31__s31_l16⟩ J wl16 ⟨hn16, hev, hms, hfr, hf7_1, hb9, hf13_1⟩
  rcases m16 with _ | m16
  · exact (loopN_zero hn16).elim
  obtain ⟨t16, h, hn16⟩ := bind_some hn16
  refine c_seq (c_plain ?_)
  refine x_pure 1 [(32, .bool (decide (t31__s31_l16 < ((x12.1).length : Int))))] _ _ _ (by kernel_rfl) ?_
  refine x_end rfl (k_then ?_)
  refine c_norm [(3, .pointer (some ⟨b9, 0, none⟩)), (4, .slice a0_13 (x12.1).length c0_13), (30, .int .i64 ((x12.1).length : Int)), (31, .int .i64 t31__s31_l16), (32, .bool (decide (t31__s31_l16 < ((x12.1).length : Int))))] ⟨rfl, rfl, rfl, rfl, rfl, trivial⟩ (fun J => ?_)
  refine c_seq ?_
  refine c_cond (decide (t31__s31_l16 < ((x12.1).length : Int))) rfl (fun hb => ?_) (fun hb => ?_)
  · replace h := ite_t hb h
    refine c_skip ?_
    refine k_then ?_
    refine c_seq ?_
    refine c_block ?_
    refine c_seq (c_plain ?_)
    refine x_pure 2 [(33, .int .i64 t31__s31_l16), (6, .int .i64 t31__s31_l16)] _ _ _ (by kernel_rfl) ?_
    refine x_end rfl (k_then ?_)
    refine c_seq (c_plain ?_)
    refine x_pure 1 [(7, .int .i64 0)] _ _ _ (by kernel_rfl) ?_
    refine x_end rfl (k_then ?_)
    refine c_seq ?_
    refine c_seq (c_plain ?_)
    refine x_pure 1 [(34, .slice a0_13 (x12.1).length c0_13)] _ _ _ (by kernel_rfl) ?_
    refine x_len (vs := [.slice a0_13 (x12.1).length c0_13]) (.int .i64 ((x12.1).length : Int)) rfl rfl rfl (reads_len tsl27 _ _ _ _ _) ?_
    refine x_pure 1 [(36, .int .i64 0)] _ _ _ (by kernel_rfl) ?_
    refine x_end rfl (k_then ?_)
    refine c_block ?_
    obtain ⟨d18, hd18, h18⟩ := bind_some h
    obtain ⟨m18, hd18⟩ := loop_some hd18
    refine c_loop (loop_rule hmx (σ := Nat × Int × Int) (fun s => match s with | (_, need_s7_l18, t36__s36_l18) => [(3, .pointer (some ⟨b9, 0, none⟩)), (4, .slice a0_13 (x12.1).length c0_13), (6, .int .i64 t31__s31_l16), (7, .int .i64 need_s7_l18), (30, .int .i64 ((x12.1).length : Int)), (31, .int .i64 t31__s31_l16), (35, .int .i64 ((x12.1).length : Int)), (36, .int .i64 t36__s36_l18)]) (fun s w' => match s with | (m, need_s7_l18, t36__s36_l18) => loopN (law11_JobLevels_L18 x6 x12 t31__s31_l16) m (need_s7_l18, t36__s36_l18) = some d18 ∧ Ev [] w w' ∧ MS w' [[b9], M] ∧ FR w.heap.size [[b9]] ∧ SlR (eProd (eInt .i64) (eProd (eInt .i64) (eProd (eInt .i64) (eInt .i64)))) w' (fl [[b9], M]) a0_7 c0_7 x6.1.1 ∧ w'.heap[b9]? = some (.cells #[.slice a0_7 (x6.1.1).length c0_7, .int .i64 x6.1.2] 24 (0, 0)) ∧ SlR (eInt .i64) w' (fl [[b9], M]) a0_13 c0_13 x12.1) (fun s => s.1) (m18, 0, 0) ⟨rfl, rfl, rfl, rfl, rfl, rfl, rfl, rfl, trivial⟩ ⟨hd18, hev, hms, hfr, hf7_1, hb9, hf13_1⟩ ?_)
    rintro ⟨m18, need_s7_l18, t36__s36_l18⟩ J wl18 ⟨hn18, hev, hms, hfr, hf7_1, hb9, hf13_1⟩
    rcases m18 with _ | m18
    · exact (loopN_zero hn18).elim
    obtain ⟨t18, h, hn18⟩ := bind_some hn18
    refine c_seq (c_plain ?_)
    refine x_pure 1 [(37, .bool (decide (t36__s36_l18 < ((x12.1).length : Int))))] _ _ _ (by kernel_rfl) ?_
    refine x_end rfl (k_then ?_)
    refine c_norm [(3, .pointer (some ⟨b9, 0, none⟩)), (4, .slice a0_13 (x12.1).length c0_13), (6, .int .i64 t31__s31_l16), (7, .int .i64 need_s7_l18), (30, .int .i64 ((x12.1).length : Int)), (31, .int .i64 t31__s31_l16), (35, .int .i64 ((x12.1).length : Int)), (36, .int .i64 t36__s36_l18), (37, .bool (decide (t36__s36_l18 < ((x12.1).length : Int))))] ⟨rfl, rfl, rfl, rfl, rfl, rfl, rfl, rfl, rfl, trivial⟩ (fun J => ?_)
    refine c_seq ?_
    refine c_cond (decide (t36__s36_l18 < ((x12.1).length : Int))) rfl (fun hb => ?_) (fun hb => ?_)
    · replace h := ite_t hb h
      refine c_skip ?_
      refine k_then ?_
      refine c_seq ?_
      refine c_block ?_
      refine c_seq (c_plain ?_)
      refine x_pure 2 [(38, .int .i64 t36__s36_l18), (8, .int .i64 t36__s36_l18)] _ _ _ (by kernel_rfl) ?_
      refine x_end rfl (k_then ?_)
      refine c_seq (c_plain ?_)
      refine x_load (xv := .pointer (some ⟨b9, 0, none⟩)) (.agg #[.slice a0_7 (x6.1.1).length c0_7, .int .i64 x6.1.2]) rfl rfl rfl (reads_boxagg 0 [.slice a0_7 (x6.1.1).length c0_7, .int .i64 x6.1.2] tagg24 hb9 nn rfl) ?_
      refine x_pure 2 [(41, .int .i64 t36__s36_l18), (42, .int .i64 t31__s31_l16)] _ _ _ (by kernel_rfl) ?_
      obtain ⟨x20, hx, h⟩ := bind_some h
      have hpk : MS wl18 ([] ++ [[b9], M]) := hms.pick [some 0, some 1] _ rfl
      have hsb0 : ∀ x ∈ fl ([] ++ [[b9], M]), x ∈ fl [[b9], M] := pick_sub [some 0, some 1] _ rfl
      have hsb : ∀ x ∈ fl ([] ++ [(fl [[b9], M])]), x ∈ fl [[b9], M] := fun x hx => hsb0 x (fl_unfold x hx)
      have hcall := job_Relation_w a0_7 c0_7 x6.1.1 x6.1.2 t36__s36_l18 t31__s31_l16 _ wl18 (fl [[b9], M]) (MS.fold (P := []) hpk) (hf7_1.sub hsb) hx
      refine x_call 23 #[] #[] [.agg #[.slice a0_7 (x6.1.1).length c0_7, .int .i64 x6.1.2], .int .i64 t36__s36_l18, .int .i64 t31__s31_l16] _ rfl rfl rfl rfl hcall ?_
      rintro v w21 ⟨rfl, he21⟩
      clear hcall hx
      refine ⟨.inl rfl, ?_⟩
      have hst := Stp.ext (ls := [[b9], M]) he21
      replace hb9 := he21.box hb9 nn
      replace hf7_1 := hf7_1.step hst
      replace hf13_1 := hf13_1.step hst
      replace hms := hms.ev he21
      replace hev := hev.ext he21
      clear hpk hsb hsb0
      refine x_pure 5 [(39, .tuple #[.int .i64 x20.1, .int .i64 x20.2]), (44, .int .i64 x20.1), (45, .int .i64 x20.2), (9, .int .i64 x20.1), (10, .int .i64 x20.2)] _ _ _ (by kernel_rfl) ?_
      refine x_end rfl (k_then ?_)
      refine c_seq ?_
      refine c_seq (c_plain ?_)
      refine x_pure 2 [(46, .int .i64 x20.2), (47, .bool (x20.2 != 0))] _ _ _ (by kernel_rfl) ?_
      refine x_end rfl (k_then ?_)
      refine c_norm [(3, .pointer (some ⟨b9, 0, none⟩)), (4, .slice a0_13 (x12.1).length c0_13), (6, .int .i64 t31__s31_l16), (7, .int .i64 need_s7_l18), (8, .int .i64 t36__s36_l18), (9, .int .i64 x20.1), (30, .int .i64 ((x12.1).length : Int)), (31, .int .i64 t31__s31_l16), (35, .int .i64 ((x12.1).length : Int)), (36, .int .i64 t36__s36_l18), (47, .bool (x20.2 != 0))] ⟨rfl, rfl, rfl, rfl, rfl, rfl, rfl, rfl, rfl, rfl, rfl, trivial⟩ (fun J => ?_)
      refine c_cond (x20.2 != 0) rfl (fun hb => ?_) (fun hb => ?_)
      · replace h := ite_t hb h
        refine c_seq (c_plain ?_)
        refine x_pure 1 [(2, .bool false)] _ _ _ (by kernel_rfl) ?_
        refine x_end rfl (k_then ?_)
        refine c_ret ?_
        refine k_then_ret ?_
        refine k_block_ret ?_
        refine k_then_ret ?_
        have hx := some_inj h
        subst hx
        have hy := some_inj hn18
        subst hy
        replace h := h18
        refine k_then_ret ?_
        refine k_block_ret ?_
        refine k_then_ret ?_
        refine k_block_ret ?_
        refine k_then_ret ?_
        have hx := some_inj h
        subst hx
        have hy := some_inj hn16
        subst hy
        replace h := h16
        refine k_then_ret ?_
        refine k_block_ret ?_
        refine k_then_ret ?_
        refine r_ret (r_vals [.bool false] ⟨rfl, trivial⟩ ?_)
        have hx := some_inj h
        subst hx
        have hmr : MS w21 [M] := hms.pick [some 1] _ rfl
        have hsu : ∀ x ∈ fl [M], x ∈ fl [[b9], M] := pick_sub [some 1] _ rfl
        exact ⟨rfl, hev⟩
      replace h := ite_f hb h
      refine c_skip ?_
      refine k_then ?_
      refine c_seq (c_plain ?_)
      refine x_pure 2 [(48, .int .i64 x20.1), (49, .bool (decide (x20.1 > 0)))] _ _ _ (by kernel_rfl) ?_
      refine x_end rfl (k_then ?_)
      refine c_cond (decide (x20.1 > 0)) rfl (fun hb => ?_) (fun hb => ?_)
      · replace h := ite_t hb h
        refine c_plain ?_
        refine x_pure 3 [(50, .int .i64 need_s7_l18), (51, .slice a0_13 (x12.1).length c0_13), (52, .int .i64 t36__s36_l18)] _ _ _ (by kernel_rfl) ?_
        obtain ⟨x23, hx23, h⟩ := bind_some h
        obtain ⟨ad23, cs23, hr23, hc23, hR⟩ := reads_index (Mo := []) tsl27 hf13_1 hx23
        obtain rfl := hR
        refine x_indexAddr (xv := .slice a0_13 (x12.1).length c0_13) (yv := .int .i64 t36__s36_l18) (.pointer (some ad23)) rfl rfl rfl rfl hr23 ?_
        refine x_load (xv := .pointer (some ad23)) (.int .i64 x23) rfl rfl rfl (reads_cell0 tcell3 hc23 (fun _ h => by cases h)) ?_
        refine x_pure 3 [(55, .int .i64 x20.1), (56, .int .i64 (IntKind.i64.wrap (x23 + x20.1))), (57, .int .i64 (IntKind.i64.wrap ((IntKind.i64.wrap (x23 + x20.1)) - 1)))] _ _ _ (by kernel_rfl) ?_
        refine x_max (vs := [.int .i64 need_s7_l18, .int .i64 (IntKind.i64.wrap ((IntKind.i64.wrap (x23 + x20.1)) - 1))]) (.int .i64 (if (IntKind.i64.wrap ((IntKind.i64.wrap (x23 + x20.1)) - 1)) > need_s7_l18 then (IntKind.i64.wrap ((IntKind.i64.wrap (x23 + x20.1)) - 1)) else need_s7_l18)) rfl rfl rfl (fun _ _ => rfl) ?_
        refine x_pure 1 [(7, .int .i64 (if (IntKind.i64.wrap ((IntKind.i64.wrap (x23 + x20.1)) - 1)) > need_s7_l18 then (IntKind.i64.wrap ((IntKind.i64.wrap (x23 + x20.1)) - 1)) else need_s7_l18))] _ _ _ (by kernel_rfl) ?_
        refine x_end rfl ?_
        refine k_block ?_
        refine k_then ?_
        refine c_norm [(3, .pointer (some ⟨b9, 0, none⟩)), (4, .slice a0_13 (x12.1).length c0_13), (6, .int .i64 t31__s31_l16), (7, .int .i64 (if (IntKind.i64.wrap ((IntKind.i64.wrap (x23 + x20.1)) - 1)) > need_s7_l18 then (IntKind.i64.wrap ((IntKind.i64.wrap (x23 + x20.1)) - 1)) else need_s7_l18)), (30, .int .i64 ((x12.1).length : Int)), (31, .int .i64 t31__s31_l16), (35, .int .i64 ((x12.1).length : Int)), (36, .int .i64 t36__s36_l18)] ⟨rfl, rfl, rfl, rfl, rfl, rfl, rfl, rfl, trivial⟩ (fun J => ?_)
        refine c_plain ?_
        refine x_pure 2 [(59, .int .i64 (IntKind.i64.wrap (t36__s36_l18 + 1))), (36, .int .i64 (IntKind.i64.wrap (t36__s36_l18 + 1)))] _ _ _ (by kernel_rfl) ?_
        refine x_end rfl ?_
        have hx := some_inj h
        subst hx
        exact k_then ⟨(m18, if (IntKind.i64.wrap ((IntKind.i64.wrap (x23 + x20.1)) - 1)) > need_s7_l18 then (IntKind.i64.wrap ((IntKind.i64.wrap (x23 + x20.1)) - 1)) else need_s7_l18, IntKind.i64.wrap (t36__s36_l18 + 1)), ⟨rfl, rfl, rfl, rfl, rfl, rfl, rfl, rfl, trivial⟩, ⟨hn18, hev, hms, hfr, hf7_1, hb9, hf13_1⟩, Nat.lt_succ_self _⟩
      replace h := ite_f hb h
      refine c_skip ?_
      refine k_block ?_
      refine k_then ?_
      refine c_plain ?_
      refine x_pure 2 [(59, .int .i64 (IntKind.i64.wrap (t36__s36_l18 + 1))), (36, .int .i64 (IntKind.i64.wrap (t36__s36_l18 + 1)))] _ _ _ (by kernel_rfl) ?_
      refine x_end rfl ?_
      have hx := some_inj h
      subst hx
      exact k_then ⟨(m18, need_s7_l18, IntKind.i64.wrap (t36__s36_l18 + 1)), ⟨rfl, rfl, rfl, rfl, rfl, rfl, rfl, rfl, trivial⟩, ⟨hn18, hev, hms, hfr, hf7_1, hb9, hf13_1⟩, Nat.lt_succ_self _⟩
    replace h := ite_f hb h
    refine c_exit ?_
    refine k_then_exit ?_
    have hx := some_inj h
    subst hx
    have hy := some_inj hn18
    subst hy
    replace h := h18
    refine k_then_exit ?_
    refine k_block_in ?_
    refine k_then ?_
    refine c_norm [(3, .pointer (some ⟨b9, 0, none⟩)), (4, .slice a0_13 (x12.1).length c0_13), (6, .int .i64 t31__s31_l16), (7, .int .i64 need_s7_l18), (30, .int .i64 ((x12.1).length : Int)), (31, .int .i64 t31__s31_l16)] ⟨rfl, rfl, rfl, rfl, rfl, rfl, trivial⟩ (fun J => ?_)
    refine c_seq (c_plain ?_)
    refine x_pure 2 [(60, .slice a0_13 (x12.1).length c0_13), (61, .int .i64 t31__s31_l16)] _ _ _ (by kernel_rfl) ?_
    obtain ⟨x25, hx25, h⟩ := bind_some h
    obtain ⟨ad25, cs25, hr25, hc25, hR⟩ := reads_index (Mo := []) tsl27 hf13_1 hx25
    obtain rfl := hR
    refine x_indexAddr (xv := .slice a0_13 (x12.1).length c0_13) (yv := .int .i64 t31__s31_l16) (.pointer (some ad25)) rfl rfl rfl rfl hr25 ?_
    refine x_load (xv := .pointer (some ad25)) (.int .i64 x25) rfl rfl rfl (reads_cell0 tcell3 hc25 (fun _ h => by cases h)) ?_
    refine x_pure 2 [(64, .int .i64 need_s7_l18), (65, .bool (x25 != need_s7_l18))] _ _ _ (by kernel_rfl) ?_
    refine x_end rfl (k_then ?_)
    refine c_cond (x25 != need_s7_l18) rfl (fun hb => ?_) (fun hb => ?_)
    · replace h := ite_t hb h
      refine c_seq (c_plain ?_)
      refine x_pure 1 [(2, .bool false)] _ _ _ (by kernel_rfl) ?_
      refine x_end rfl (k_then ?_)
      refine c_ret ?_
      refine k_block_ret ?_
      refine k_then_ret ?_
      have hx := some_inj h
      subst hx
      have hy := some_inj hn16
      subst hy
      replace h := h16
      refine k_then_ret ?_
      refine k_block_ret ?_
      refine k_then_ret ?_
      refine r_ret (r_vals [.bool false] ⟨rfl, trivial⟩ ?_)
      have hx := some_inj h
      subst hx
      have hmr : MS wl18 [M] := hms.pick [some 1] _ rfl
      have hsu : ∀ x ∈ fl [M], x ∈ fl [[b9], M] := pick_sub [some 1] _ rfl
      exact ⟨rfl, hev⟩
    replace h := ite_f hb h
    refine c_skip ?_
    refine k_block ?_
    refine k_then ?_
    refine c_plain ?_
    refine x_pure 2 [(66, .int .i64 (IntKind.i64.wrap (t31__s31_l16 + 1))), (31, .int .i64 (IntKind.i64.wrap (t31__s31_l16 + 1)))] _ _ _ (by kernel_rfl) ?_
    refine x_end rfl ?_
    have hx := some_inj h
    subst hx
    exact k_then ⟨(m16, IntKind.i64.wrap (t31__s31_l16 + 1)), ⟨rfl, rfl, rfl, rfl, trivial⟩, ⟨hn16, hev, hms, hfr, hf7_1, hb9, hf13_1⟩, Nat.lt_succ_self _⟩
  replace h := ite_f hb h
  refine c_exit ?_
  refine k_then_exit ?_
  have hx := some_inj h
  subst hx
  have hy := some_inj hn16
  subst hy
  replace h := h16
  refine k_then_exit ?_
  refine k_block_in ?_
  refine k_then ?_
  refine c_norm [] trivial (fun J => ?_)
  refine c_seq (c_plain ?_)
  obtain ⟨x27, hx, h⟩ := bind_some h
  have hcall := law11_sane_w _ wl16 hx
  refine x_call 12 #[] #[] [] _ rfl rfl rfl rfl hcall ?_
  rintro v w28 ⟨rfl, he28⟩
  clear hcall hx
  refine ⟨.inl rfl, ?_⟩
  have hst := Stp.ext (ls := [[b9], M]) he28
  replace hb9 := he28.box hb9 nn
  replace hf7_1 := hf7_1.step hst
  replace hms := hms.ev he28
  replace hev := hev.ext he28
  refine x_pure 1 [(2, .bool x27)] _ _ _ (by kernel_rfl) ?_
  refine x_end rfl (k_then ?_)
  refine c_ret ?_
  refine r_ret (r_vals [.bool x27] ⟨rfl, trivial⟩ ?_)
  have hx := some_inj h
  subst hx
  have hmr : MS w28 [M] := hms.pick [some 1] _ rfl
  have hsu : ∀ x ∈ fl [M], x ∈ fl [[b9], M] := pick_sub [some 1] _ rfl
  exact ⟨rfl, hev⟩
end Go.Proofs.Ytacimonplnlmgaa
