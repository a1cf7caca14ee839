/- Walks, printed by program: each function returns what the partial function of the same name returns. Conditions: those of each theorem. -/
import Derived.Test.YtmjobkpgnhbcbaaGT
import Derived.Test.YtmjobkpgnhbcbaaGgen
import Derived.Test.YtmjobkpgnhbcbaaGlaw14plan
import Derived.Test.YtmjobkpgnhbcbaaGlaw14sane
import Derived.Test.YtmjobkpgnhbcbaaGrollin
set_option linter.unusedVariables false
set_option linter.unusedSimpArgs false
set_option maxRecDepth 4000
namespace Go.Proofs.Ytmjobkpgnhbcbaa
open Go Go.V Go.Proofs
def law14_RollinTrack_L42 (x38 : List Int) (s : (List Int) × Int) : Option (Step ((List Int) × Int) (Unit ⊕ (List Int))) :=
match s with
| (d26_l42, t70__s70_l42) =>
(if (decide (t70__s70_l42 < ((x38).length : Int))) = true then
((idx x38 t70__s70_l42).bind fun x44 =>
(if (decide (x44 < 0)) = true then
some (.done (.inl ()))
else
(if (decide (x44 ≥ ((d26_l42).length : Int))) = true then
some (.done (.inl ()))
else
((idx d26_l42 x44).bind fun x46 =>
((idx d26_l42 x44).bind fun x48 =>
some (.next ((d26_l42.set (Int.toNat x44) (IntKind.i64.wrap (x46 + 1))), IntKind.i64.wrap (t70__s70_l42 + 1))))))))
else
some (.done (.inr d26_l42)))

def law14_RollinTrack_L36 (x32 : List (List Int)) (s : (List Int) × Int) : Option (Step ((List Int) × Int) (Unit ⊕ (List Int))) :=
match s with
| (d26_l36, t64__s64_l36) =>
(if (decide (t64__s64_l36 < ((x32).length : Int))) = true then
((idx x32 t64__s64_l36).bind fun x38 =>
((loop (law14_RollinTrack_L42 x38) (d26_l36, 0)).bind fun d => match d with
| (.inl _) => some (.done (.inl ()))
| (.inr d26_x4201) => some (.next (d26_x4201, IntKind.i64.wrap (t64__s64_l36 + 1)))))
else
some (.done (.inr d26_l36)))

def law14_RollinTrack_L58 (time_s6_l18 : Int) (x20 : (List (List Int)) × (List (List Int)) × Int) (s : Int) : Option (Step Int (Unit ⊕ Unit)) :=
match s with
| i_s19_l58 =>
(if (decide (i_s19_l58 < time_s6_l18)) = true then
((idx x20.1 i_s19_l58).bind fun x60 =>
(if (decide (((x60).length : Int) > 0)) = true then
some (.done (.inl ()))
else
some (.next (IntKind.i64.wrap (i_s19_l58 + 1)))))
else
some (.done (.inr ())))

def law14_RollinTrack_L52 (x6 : ((List (Int × Int × Int × Int)) × Int) × Int) (time_s6_l18 : Int) (d26_x3001 : List Int) (s : Int) : Option (Step Int (Unit ⊕ Unit)) :=
match s with
| t93__s93_l52 =>
(if (decide (t93__s93_l52 < ((d26_x3001).length : Int))) = true then
((idx d26_x3001 t93__s93_l52).bind fun x54 =>
((idx x6.1.1 t93__s93_l52).bind fun x56 =>
(if ((decide (x56.2.2.1 ≤ time_s6_l18)) != (x54 == 1)) = true then
some (.done (.inl ()))
else
(if (decide (x54 > 1)) = true then
some (.done (.inl ()))
else
some (.next (IntKind.i64.wrap (t93__s93_l52 + 1)))))))
else
some (.done (.inr ())))

def law14_RollinTrack_L30 (x20 : (List (List Int)) × (List (List Int)) × Int) (s : (List Int) × Int) : Option (Step ((List Int) × Int) (Unit ⊕ (List Int))) :=
match s with
| (d26_l30, t58__s58_l30) =>
(if (decide (t58__s58_l30 < ((([x20.1, x20.2.1] : List (List (List Int)))).length : Int))) = true then
((idx ([x20.1, x20.2.1] : List (List (List Int))) t58__s58_l30).bind fun x32 =>
((loop (law14_RollinTrack_L36 x32) (d26_l30, 0)).bind fun d => match d with
| (.inl _) => some (.done (.inl ()))
| (.inr d26_x3601) => some (.next (d26_x3601, IntKind.i64.wrap (t58__s58_l30 + 1)))))
else
some (.done (.inr d26_l30)))

def law14_RollinTrack_L18 (x6 : ((List (Int × Int × Int × Int)) × Int) × Int) (x12 : (Int × (List Int)) × Int) (s : Int) : Option (Step Int (Unit ⊕ Unit)) :=
match s with
| time_s6_l18 =>
(if (decide (time_s6_l18 ≤ x12.1.1)) = true then
((rollin_Contents x6.1.1 x6.1.2 x12.1.1 x12.1.2 time_s6_l18).bind fun x20 =>
(if (x20.2.2 != 0) = true then
some (.done (.inl ()))
else
(if (((x20.1).length : Int) != x12.1.1) = true then
some (.done (.inl ()))
else
(if 0 ≤ ((x6.1.1).length : Int) ∧ ((x6.1.1).length : Int) ≤ 4294967296 then
((loop (law14_RollinTrack_L30 x20) ((List.replicate (Int.toNat ((x6.1.1).length : Int)) 0 : List Int), 0)).bind fun d => match d with
| (.inl _) => some (.done (.inl ()))
| (.inr d26_x3001) => ((loop (law14_RollinTrack_L52 x6 time_s6_l18 d26_x3001) 0).bind fun d => match d with
| (.inl _) => some (.done (.inl ()))
| (.inr _) => ((loop (law14_RollinTrack_L58 time_s6_l18 x20) 0).bind fun d => match d with
| (.inl _) => some (.done (.inl ()))
| (.inr _) => some (.next (IntKind.i64.wrap (time_s6_l18 + 1))))))
else none))))
else
some (.done (.inr ())))

def law14_RollinTrack (p0 : List Int) : Option Bool :=
((gen_New p0).bind fun x2 =>
((gen_Maker_Job x2.1 x2.2 14).bind fun x6 =>
((law14_plan x2.1 x6.2 x6.1.1 x6.1.2).bind fun x12 =>
((loop (law14_RollinTrack_L18 x6 x12) 0).bind fun d => match d with
| (.inl _) => some false
| (.inr _) => ((law14_sane).bind fun x64 =>
some x64)))))

theorem law14_RollinTrack_w (a_p0 : Option Addr) (c_p0 : Nat) (p0 : List Int) (r : Bool) (w : World) (M : List Nat) (hms : MS w [M]) (hs_p0 : SlR (eInt .i64) w (fl [M]) a_p0 c_p0 p0) (h : law14_RollinTrack p0 = some r) : CallVC Try.prog 4 [.slice a_p0 (p0).length c_p0] w fun v w' => v = .bool r ∧ Ev [] w w' := by
  refine calls_vc hmx Try.func4 (by kernel_rfl) rfl (rs := [.tmp 2]) rfl (by kernel_rfl) (args := [.slice a_p0 (p0).length c_p0]) rfl ?_
  have hev : Ev [] w w := Ev.refl _ _
  have hfr : FR w.heap.size [] := FR.nil _
  refine c_seq (c_plain ?_)
  refine x_pure 1 [(2, .bool false)] _ _ _ (by kernel_rfl) ?_
  refine x_end rfl (k_then ?_)
  refine c_seq (c_plain ?_)
  refine x_pure 1 [(20, .slice a_p0 (p0).length c_p0)] _ _ _ (by kernel_rfl) ?_
  obtain ⟨x2, hx, h⟩ := bind_some h
  have hpk : MS w ([] ++ [M]) := hms.pick [some 0] _ rfl
  have hsb0 : ∀ x ∈ fl ([] ++ [M]), x ∈ fl [M] := pick_sub [some 0] _ rfl
  have hsb : ∀ x ∈ fl ([] ++ [(fl [M])]), x ∈ fl [M] := fun x hx => hsb0 x (fl_unfold x hx)
  have hcall := gen_New_w a_p0 c_p0 p0 _ w (fl [M]) (MS.fold (P := []) hpk) (hs_p0.sub hsb) hx
  refine x_call 11 #[] #[] [.slice a_p0 (p0).length c_p0] _ rfl rfl rfl rfl hcall ?_
  rintro v w3 ⟨b0_3, a1_3, c1_3, rfl, he3, hmn3, hfn3, hf3_1, hf3_2⟩
  clear hcall hx
  refine ⟨.inl rfl, ?_⟩
  have hpk2 : MS w ([] ++ [M]) := hms.pick [some 0] _ rfl
  have hsb2 : ∀ x ∈ fl ([] ++ [M]), x ∈ fl [M] := pick_sub [some 0] _ rfl
  have hst0 := Stp.call (LS := [M]) (res := [[b0_3]]) (par := []) (R := [M]) he3 (fun b hb => hsb2 b (fl_left' (P := []) b hb)) hfn3 (NP.init _ _) (fun x hx => hsb2 x (fl_right' (P := []) x hx))
  have hsn : ∀ x ∈ fl [[b0_3], M], x ∈ fl ([[b0_3]] ++ ([] ++ [M])) := pick_sub [some 0, some 1] _ rfl
  have hst := hst0.res hsn
  replace hs_p0 := hs_p0.step hst
  replace hms : MS w3 [[b0_3], M] := (MS.call (P := []) (R := [M]) (res := [[b0_3]]) (par := []) hpk2 he3 hmn3 hfn3 (NP.init _ _)).pick [some 0, some 1] _ rfl
  have hfr2 : FR w.heap.size [[b0_3]] := (FR.cons (fun b hb => Nat.le_trans hev.size (hfn3.at 0 rfl b hb)) (FR.nil _))
  replace hev := hev.ext he3
  replace hfr := hfr2
  clear hfr2
  have hsp : ∀ x ∈ fl [[b0_3], M], x ∈ fl ([[b0_3]] ++ ([] ++ [(fl [M])])) := fun x hx => fl_tot (res := [[b0_3]]) (par := []) (R := [M]) x (hsn x hx)
  replace hf3_2 := hf3_2.sub hsp
  clear hpk hsb hsb0 hpk2 hsb2 hst0 hsn hst
  refine x_pure 1 [(3, .pointer (some ⟨b0_3, 0, none⟩))] _ _ _ (by kernel_rfl) ?_
  refine x_end rfl (k_then ?_)
  refine c_seq (c_plain ?_)
  refine x_pure 1 [(22, .pointer (some ⟨b0_3, 0, none⟩))] _ _ _ (by kernel_rfl) ?_
  obtain ⟨x6, hx, h⟩ := bind_some h
  have hpk : MS w3 ([[b0_3]] ++ [M]) := hms.pick [some 0, some 1] _ rfl
  have hsb0 : ∀ x ∈ fl ([[b0_3]] ++ [M]), x ∈ fl [[b0_3], M] := pick_sub [some 0, some 1] _ rfl
  have hsb : ∀ x ∈ fl ([[b0_3]] ++ [(fl [M])]), x ∈ fl [[b0_3], M] := fun x hx => hsb0 x (fl_unfold x hx)
  have hcall := gen_Maker_Job_w b0_3 a1_3 c1_3 x2.1 x2.2 14 _ w3 (fl [M]) (hpk.fold (P := [[b0_3]])) (hf3_2.sub hsb) hf3_1 hx
  refine x_call 12 #[] #[] [.pointer (some ⟨b0_3, 0, none⟩), .int .i64 14] _ rfl rfl rfl rfl hcall ?_
  rintro v w7 ⟨a0_7, c0_7, rfl, he7, hp7_0, hmn7, hfn7, hf7_1⟩
  clear hcall hx
  refine ⟨.inl rfl, ?_⟩
  have hpk2 : MS w3 ([[b0_3]] ++ [M]) := hms.pick [some 0, some 1] _ rfl
  have hsb2 : ∀ x ∈ fl ([[b0_3]] ++ [M]), x ∈ fl [[b0_3], M] := pick_sub [some 0, some 1] _ rfl
  have hst0 := Stp.call (LS := [[b0_3], M]) (res := [blk a0_7]) (par := [[b0_3]]) (R := [M]) he7 (fun b hb => hsb2 b (fl_left' (P := [[b0_3]]) b hb)) hfn7 (NP.init _ _) (fun x hx => hsb2 x (fl_right' (P := [[b0_3]]) x hx))
  have hsn : ∀ x ∈ fl [blk a0_7, [b0_3], M], x ∈ fl ([blk a0_7] ++ ([[b0_3]] ++ [M])) := pick_sub [some 0, some 1, some 2] _ rfl
  have hst := hst0.res hsn
  replace hf3_2 := hf3_2.step hst
  replace hms : MS w7 [blk a0_7, [b0_3], M] := (MS.call (P := [[b0_3]]) (R := [M]) (res := [blk a0_7]) (par := [[b0_3]]) hpk2 he7 hmn7 hfn7 (NP.init _ _)).pick [some 0, some 1, some 2] _ rfl
  have hPf : ∀ b ∈ fl [[b0_3]], w.heap.size ≤ b := FR.mem (ls := [[b0_3]]) (hfr.pick [some 0] _ rfl)
  have hfr2 : FR w.heap.size [blk a0_7, [b0_3]] := (FR.cons (fun b hb => Nat.le_trans hev.size (hfn7.at 0 rfl b hb)) (FR.cons (hfr.at 0 rfl) (FR.nil _)))
  replace hev := hev.then he7 (fun b hb => .inr (hPf b hb))
  replace hfr := hfr2
  clear hfr2
  replace hf3_1 := hp7_0
  replace hf7_1 := OwnS.plain (M' := fl [blk a0_7, [b0_3], M]) (plain_prod (plain_int _) (plain_prod (plain_int _) (plain_prod (plain_int _) (plain_int _)))) hf7_1
  clear hpk hsb hsb0 hpk2 hsb2 hst0 hsn hst
  have hpk : MS w7 [[b0_3], M] := hms.pick [some 1, some 2] _ rfl
  have hsu : ∀ x ∈ fl [[b0_3], M], x ∈ fl [blk a0_7, [b0_3], M] := pick_sub [some 1, some 2] _ rfl
  replace hf3_2 := hf3_2.sub hsu
  replace hf7_1 := hf7_1.ro hsu (pick_out hms 0 rfl [some 1, some 2] [[b0_3], M] rfl rfl)
  replace hms := hpk
  replace hfr : FR w.heap.size [[b0_3]] := hfr.pick [some 1] _ rfl
  clear hpk hsu
  refine x_alloc (z := .agg #[.slice none 0 0, .int .i64 0]) rfl rfl (by kernel_rfl) (fun b9 w9 hq9 hb9 he9 _ => ?_)
  replace hb9 : w9.heap[b9]? = some (.cells #[.slice none 0 0, .int .i64 0] 27 (0, 0)) := hb9
  refine ⟨.inl rfl, ?_⟩
  have hst := Stp.box (ls := [[b0_3], M]) he9 hq9
  replace hf3_1 := he9.box hf3_1 nn
  replace hf3_2 := hf3_2.step hst
  replace hf7_1 := hf7_1.step hst
  replace hms := hms.box he9 hq9 hb9
  replace hfr := hfr.box hev.size hq9
  replace hev := hev.ext he9
  obtain ⟨w11, hr11, hb11, he11⟩ := store_boxagg 0 [.slice a0_7 (x6.1.1).length c0_7, .int .i64 x6.1.2] #[.slice a0_7 (x6.1.1).length c0_7, .int .i64 x6.1.2] tagg27 hb9 rfl rfl rfl
  refine x_store w11 (xv := .pointer (some ⟨b9, 0, none⟩)) (yv := .agg #[.slice a0_7 (x6.1.1).length c0_7, .int .i64 x6.1.2]) rfl rfl rfl rfl hr11 ?_
  refine ⟨.inl rfl, ?_⟩
  have hst := Stp.ev' (ls := [[b9], [b0_3], M]) he11 (mem_flat 0 rfl)
  replace hf3_1 := he11.box hf3_1 (hms.apart 1 0 rfl rfl rfl _ (List.mem_singleton.2 rfl))
  replace hf3_2 := hf3_2.step hst
  replace hf7_1 := hf7_1.step hst
  replace hms := hms.ev he11
  replace hev := hev.then he11 (fun b hb => .inr (hfr.at 0 rfl b hb))
  replace hb9 := hb11
  refine x_end rfl (k_then ?_)
  refine c_seq (c_plain ?_)
  refine x_pure 1 [(24, .pointer (some ⟨b0_3, 0, none⟩))] _ _ _ (by kernel_rfl) ?_
  refine x_load (xv := .pointer (some ⟨b9, 0, none⟩)) (.agg #[.slice a0_7 (x6.1.1).length c0_7, .int .i64 x6.1.2]) rfl rfl rfl (reads_boxagg 0 [.slice a0_7 (x6.1.1).length c0_7, .int .i64 x6.1.2] tagg27 hb9 nn rfl) ?_
  obtain ⟨x12, hx, h⟩ := bind_some h
  have hpk : MS w11 ([[b0_3]] ++ [[b9], M]) := hms.pick [some 1, some 0, some 2] _ rfl
  have hsb0 : ∀ x ∈ fl ([[b0_3]] ++ [[b9], M]), x ∈ fl [[b9], [b0_3], M] := pick_sub [some 1, some 0, some 2] _ rfl
  have hsb : ∀ x ∈ fl ([[b0_3]] ++ [(fl [[b9], M])]), x ∈ fl [[b9], [b0_3], M] := fun x hx => hsb0 x (fl_unfold x hx)
  have hcall := law14_plan_w b0_3 a1_3 c1_3 x2.1 x6.2 a0_7 c0_7 x6.1.1 x6.1.2 _ w11 (fl [[b9], M]) (hpk.fold (P := [[b0_3]])) (hf3_2.sub hsb) hf3_1 (hf7_1.sub hsb) hx
  refine x_call 13 #[] #[] [.pointer (some ⟨b0_3, 0, none⟩), .agg #[.slice a0_7 (x6.1.1).length c0_7, .int .i64 x6.1.2]] _ rfl rfl rfl rfl hcall ?_
  rintro v w13 ⟨a0_13, c0_13, rfl, he13, hp13_0, hmn13, hfn13, hf13_1⟩
  clear hcall hx
  refine ⟨.inl rfl, ?_⟩
  have hpk2 : MS w11 ([[b0_3]] ++ [[b9], M]) := hms.pick [some 1, some 0, some 2] _ rfl
  have hsb2 : ∀ x ∈ fl ([[b0_3]] ++ [[b9], M]), x ∈ fl [[b9], [b0_3], M] := pick_sub [some 1, some 0, some 2] _ rfl
  have hst0 := Stp.call (LS := [[b9], [b0_3], M]) (res := [blk a0_13]) (par := [[b0_3]]) (R := [[b9], M]) he13 (fun b hb => hsb2 b (fl_left' (P := [[b0_3]]) b hb)) hfn13 (NP.init _ _) (fun x hx => hsb2 x (fl_right' (P := [[b0_3]]) x hx))
  have hsn : ∀ x ∈ fl [blk a0_13, [b9], [b0_3], M], x ∈ fl ([blk a0_13] ++ ([[b0_3]] ++ [[b9], M])) := pick_sub [some 0, some 2, some 1, some 3] _ rfl
  have hst := hst0.res hsn
  replace hf3_2 := hf3_2.step hst
  replace hf7_1 := hf7_1.step hst
  replace hb9 := he13.box hb9 ((MS.outs (P := [[b0_3]]) hpk2 0 rfl) _ (List.mem_singleton.2 rfl))
  replace hms : MS w13 [blk a0_13, [b9], [b0_3], M] := (MS.call (P := [[b0_3]]) (R := [[b9], M]) (res := [blk a0_13]) (par := [[b0_3]]) hpk2 he13 hmn13 hfn13 (NP.init _ _)).pick [some 0, some 2, some 1, some 3] _ rfl
  have hPf : ∀ b ∈ fl [[b0_3]], w.heap.size ≤ b := FR.mem (ls := [[b0_3]]) (hfr.pick [some 1] _ rfl)
  have hfr2 : FR w.heap.size [blk a0_13, [b9], [b0_3]] := (FR.cons (fun b hb => Nat.le_trans hev.size (hfn13.at 0 rfl b hb)) (FR.cons (hfr.at 0 rfl) (FR.cons (hfr.at 1 rfl) (FR.nil _))))
  replace hev := hev.then he13 (fun b hb => .inr (hPf b hb))
  replace hfr := hfr2
  clear hfr2
  replace hf3_1 := hp13_0
  replace hf13_1 := OwnS.plain (M' := fl [blk a0_13, [b9], [b0_3], M]) (plain_int _) hf13_1
  clear hpk hsb hsb0 hpk2 hsb2 hst0 hsn hst
  have hpk : MS w13 [[b9], [b0_3], M] := hms.pick [some 1, some 2, some 3] _ rfl
  have hsu : ∀ x ∈ fl [[b9], [b0_3], M], x ∈ fl [blk a0_13, [b9], [b0_3], M] := pick_sub [some 1, some 2, some 3] _ rfl
  replace hf3_2 := hf3_2.sub hsu
  replace hf7_1 := hf7_1.sub hsu
  replace hf13_1 := hf13_1.ro hsu (pick_out hms 0 rfl [some 1, some 2, some 3] [[b9], [b0_3], M] rfl rfl)
  replace hms := hpk
  replace hfr : FR w.heap.size [[b9], [b0_3]] := hfr.pick [some 1, some 2] _ rfl
  clear hpk hsu
  refine x_alloc (z := .agg #[.int .i64 0, .slice none 0 0]) rfl rfl (by kernel_rfl) (fun b15 w15 hq15 hb15 he15 _ => ?_)
  replace hb15 : w15.heap[b15]? = some (.cells #[.int .i64 0, .slice none 0 0] 30 (0, 0)) := hb15
  refine ⟨.inl rfl, ?_⟩
  have hst := Stp.box (ls := [[b9], [b0_3], M]) he15 hq15
  replace hf3_1 := he15.box hf3_1 nn
  replace hf3_2 := hf3_2.step hst
  replace hf7_1 := hf7_1.step hst
  replace hb9 := he15.box hb9 nn
  replace hf13_1 := hf13_1.step hst
  replace hms := hms.box he15 hq15 hb15
  replace hfr := hfr.box hev.size hq15
  replace hev := hev.ext he15
  obtain ⟨w17, hr17, hb17, he17⟩ := store_boxagg 0 [.int .i64 x12.1.1, .slice a0_13 (x12.1.2).length c0_13] #[.int .i64 x12.1.1, .slice a0_13 (x12.1.2).length c0_13] tagg30 hb15 rfl rfl rfl
  refine x_store w17 (xv := .pointer (some ⟨b15, 0, none⟩)) (yv := .agg #[.int .i64 x12.1.1, .slice a0_13 (x12.1.2).length c0_13]) rfl rfl rfl rfl hr17 ?_
  refine ⟨.inl rfl, ?_⟩
  have hst := Stp.ev' (ls := [[b15], [b9], [b0_3], M]) he17 (mem_flat 0 rfl)
  replace hf3_1 := he17.box hf3_1 (hms.apart 2 0 rfl rfl rfl _ (List.mem_singleton.2 rfl))
  replace hf3_2 := hf3_2.step hst
  replace hf7_1 := hf7_1.step hst
  replace hb9 := he17.box hb9 (hms.apart 1 0 rfl rfl rfl _ (List.mem_singleton.2 rfl))
  replace hf13_1 := hf13_1.step hst
  replace hms := hms.ev he17
  replace hev := hev.then he17 (fun b hb => .inr (hfr.at 0 rfl b hb))
  replace hb15 := hb17
  refine x_end rfl (k_then ?_)
  refine c_seq ?_
  refine c_seq (c_plain ?_)
  refine x_pure 1 [(6, .int .i64 0)] _ _ _ (by kernel_rfl) ?_
  refine x_end rfl (k_then ?_)
  refine c_block ?_
  have hpk : MS w17 [[b9], [b15], M] := hms.pick [some 1, some 0, some 3] _ rfl
  have hsu : ∀ x ∈ fl [[b9], [b15], M], x ∈ fl [[b15], [b9], [b0_3], M] := pick_sub [some 1, some 0, some 3] _ rfl
  replace hf7_1 := hf7_1.sub hsu
  replace hf13_1 := hf13_1.sub hsu
  replace hms := hpk
  replace hfr : FR w.heap.size [[b9], [b15]] := hfr.pick [some 1, some 0] _ rfl
  clear hpk hsu
  obtain ⟨d18, hd18, h18⟩ := bind_some h
  obtain ⟨m18, hd18⟩ := loop_some hd18
  refine c_loop (loop_rule hmx (σ := Nat × Int) (fun s => match s with | (_, time_s6_l18) => [(4, .pointer (some ⟨b9, 0, none⟩)), (5, .pointer (some ⟨b15, 0, none⟩)), (6, .int .i64 time_s6_l18)]) (fun s w' => match s with | (m, time_s6_l18) => loopN (law14_RollinTrack_L18 x6 x12) m time_s6_l18 = some d18 ∧ Ev [] w w' ∧ MS w' [[b9], [b15], M] ∧ FR w.heap.size [[b9], [b15]] ∧ SlR (eProd (eInt .i64) (eProd (eInt .i64) (eProd (eInt .i64) (eInt .i64)))) w' (fl [[b9], [b15], M]) a0_7 c0_7 x6.1.1 ∧ w'.heap[b9]? = some (.cells #[.slice a0_7 (x6.1.1).length c0_7, .int .i64 x6.1.2] 27 (0, 0)) ∧ SlR (eInt .i64) w' (fl [[b9], [b15], M]) a0_13 c0_13 x12.1.2 ∧ w'.heap[b15]? = some (.cells #[.int .i64 x12.1.1, .slice a0_13 (x12.1.2).length c0_13] 30 (0, 0))) (fun s => s.1) (m18, 0) ⟨rfl, rfl, rfl, trivial⟩ ⟨hd18, hev, hms, hfr, hf7_1, hb9, hf13_1, hb15⟩ ?_)
  rintro ⟨m18, time_s6_l18⟩ J wl18 ⟨hn18, hev, hms, hfr, hf7_1, hb9, hf13_1, hb15⟩
  rcases m18 with _ | m18
  · exact (loopN_zero hn18).elim
  obtain ⟨t18, h, hn18⟩ := bind_some hn18
  refine c_seq ?_
  refine c_seq (c_plain ?_)
  refine x_pure 1 [(27, .int .i64 time_s6_l18)] _ _ _ (by kernel_rfl) ?_
  refine x_fieldAddr (xv := .pointer (some ⟨b15, 0, none⟩)) (.pointer (some ⟨b15, 0, none⟩)) rfl rfl rfl (reads_field tfld30_0 _ _) ?_
  refine x_load (xv := .pointer (some ⟨b15, 0, none⟩)) (.int .i64 x12.1.1) rfl rfl rfl (reads_box tcell3 hb15 nn 0 _ rfl) ?_
  refine x_pure 1 [(30, .bool (decide (time_s6_l18 ≤ x12.1.1)))] _ _ _ (by kernel_rfl) ?_
  refine x_end rfl (k_then ?_)
  refine c_norm [(4, .pointer (some ⟨b9, 0, none⟩)), (5, .pointer (some ⟨b15, 0, none⟩)), (6, .int .i64 time_s6_l18), (30, .bool (decide (time_s6_l18 ≤ x12.1.1)))] ⟨rfl, rfl, rfl, rfl, trivial⟩ (fun J => ?_)
  refine c_cond (decide (time_s6_l18 ≤ x12.1.1)) rfl (fun hb => ?_) (fun hb => ?_)
  · replace h := ite_t hb h
    refine c_skip ?_
    refine k_then ?_
    refine c_seq ?_
    refine c_block ?_
    refine c_seq (c_plain ?_)
    refine x_load (xv := .pointer (some ⟨b9, 0, none⟩)) (.agg #[.slice a0_7 (x6.1.1).length c0_7, .int .i64 x6.1.2]) rfl rfl rfl (reads_boxagg 0 [.slice a0_7 (x6.1.1).length c0_7, .int .i64 x6.1.2] tagg27 hb9 nn rfl) ?_
    refine x_load (xv := .pointer (some ⟨b15, 0, none⟩)) (.agg #[.int .i64 x12.1.1, .slice a0_13 (x12.1.2).length c0_13]) rfl rfl rfl (reads_boxagg 0 [.int .i64 x12.1.1, .slice a0_13 (x12.1.2).length c0_13] tagg30 hb15 nn rfl) ?_
    refine x_pure 1 [(36, .int .i64 time_s6_l18)] _ _ _ (by kernel_rfl) ?_
    obtain ⟨x20, hx, h⟩ := bind_some h
    have hpk : MS wl18 ([] ++ [[b9], [b15], M]) := hms.pick [some 0, some 1, some 2] _ rfl
    have hsb0 : ∀ x ∈ fl ([] ++ [[b9], [b15], M]), x ∈ fl [[b9], [b15], M] := pick_sub [some 0, some 1, some 2] _ rfl
    have hsb : ∀ x ∈ fl ([] ++ [(fl [[b9], [b15], M])]), x ∈ fl [[b9], [b15], M] := fun x hx => hsb0 x (fl_unfold x hx)
    have hcall := rollin_Contents_w a0_7 c0_7 x6.1.1 x6.1.2 x12.1.1 a0_13 c0_13 x12.1.2 time_s6_l18 _ wl18 (fl [[b9], [b15], M]) (MS.fold (P := []) hpk) (hf7_1.sub hsb) (hf13_1.sub hsb) hx
    refine x_call 16 #[] #[] [.agg #[.slice a0_7 (x6.1.1).length c0_7, .int .i64 x6.1.2], .agg #[.int .i64 x12.1.1, .slice a0_13 (x12.1.2).length c0_13], .int .i64 time_s6_l18] _ rfl rfl rfl rfl hcall ?_
    rintro v w21 ⟨a0_21, c0_21, B2_21, a3_21, c3_21, B5_21, rfl, he21, hmn21, hfn21, hf21_1, hf21_2⟩
    clear hcall hx
    refine ⟨.inl rfl, ?_⟩
    have hpk2 : MS wl18 ([] ++ [[b9], [b15], M]) := hms.pick [some 0, some 1, some 2] _ rfl
    have hsb2 : ∀ x ∈ fl ([] ++ [[b9], [b15], M]), x ∈ fl [[b9], [b15], M] := pick_sub [some 0, some 1, some 2] _ rfl
    have hst0 := Stp.call (LS := [[b9], [b15], M]) (res := [B2_21, B5_21]) (par := []) (R := [[b9], [b15], M]) he21 (fun b hb => hsb2 b (fl_left' (P := []) b hb)) hfn21 (NP.init _ _) (fun x hx => hsb2 x (fl_right' (P := []) x hx))
    have hsn : ∀ x ∈ fl [B2_21, B5_21, [b9], [b15], M], x ∈ fl ([B2_21, B5_21] ++ ([] ++ [[b9], [b15], M])) := pick_sub [some 0, some 1, some 2, some 3, some 4] _ rfl
    have hst := hst0.res hsn
    replace hb9 := he21.box hb9 ((MS.outs (P := []) hpk2 0 rfl) _ (List.mem_singleton.2 rfl))
    replace hf7_1 := hf7_1.step hst
    replace hb15 := he21.box hb15 ((MS.outs (P := []) hpk2 1 rfl) _ (List.mem_singleton.2 rfl))
    replace hf13_1 := hf13_1.step hst
    replace hms : MS w21 [B2_21, B5_21, [b9], [b15], M] := (MS.call (P := []) (R := [[b9], [b15], M]) (res := [B2_21, B5_21]) (par := []) hpk2 he21 hmn21 hfn21 (NP.init _ _)).pick [some 0, some 1, some 2, some 3, some 4] _ rfl
    have hfr2 : FR w.heap.size [B2_21, B5_21, [b9], [b15]] := (FR.cons (fun b hb => Nat.le_trans hev.size (hfn21.at 0 rfl b hb)) (FR.cons (fun b hb => Nat.le_trans hev.size (hfn21.at 1 rfl b hb)) (FR.cons (hfr.at 0 rfl) (FR.cons (hfr.at 1 rfl) (FR.nil _)))))
    replace hev := hev.ext he21
    replace hfr := hfr2
    clear hfr2
    clear hpk hsb hsb0 hpk2 hsb2 hst0 hsn hst
    have hpk : MS w21 [B5_21, [b9], [b15], M] := hms.pick [some 1, some 2, some 3, some 4] _ rfl
    have hsu : ∀ x ∈ fl [B5_21, [b9], [b15], M], x ∈ fl [B2_21, B5_21, [b9], [b15], M] := pick_sub [some 1, some 2, some 3, some 4] _ rfl
    replace hf7_1 := hf7_1.sub hsu
    replace hf13_1 := hf13_1.sub hsu
    replace hf21_1 := hf21_1.ro (plain_int _) (pick_out hms 0 rfl [some 1, some 2, some 3, some 4] [B5_21, [b9], [b15], M] rfl rfl)
    replace hms := hpk
    replace hfr : FR w.heap.size [B5_21, [b9], [b15]] := hfr.pick [some 1, some 2, some 3] _ rfl
    clear hpk hsu
    have hpk : MS w21 [[b9], [b15], M] := hms.pick [some 1, some 2, some 3] _ rfl
    have hsu : ∀ x ∈ fl [[b9], [b15], M], x ∈ fl [B5_21, [b9], [b15], M] := pick_sub [some 1, some 2, some 3] _ rfl
    replace hf7_1 := hf7_1.sub hsu
    replace hf13_1 := hf13_1.sub hsu
    replace hf21_1 := hf21_1.sub hsu
    replace hf21_2 := hf21_2.ro (plain_int _) (pick_out hms 0 rfl [some 1, some 2, some 3] [[b9], [b15], M] rfl rfl)
    replace hms := hpk
    replace hfr : FR w.heap.size [[b9], [b15]] := hfr.pick [some 1, some 2] _ rfl
    clear hpk hsu
    refine x_pure 7 [(33, .tuple #[.slice a0_21 (x20.1).length c0_21, .slice a3_21 (x20.2.1).length c3_21, .int .i64 x20.2.2]), (38, .slice a0_21 (x20.1).length c0_21), (39, .slice a3_21 (x20.2.1).length c3_21), (40, .int .i64 x20.2.2), (7, .slice a0_21 (x20.1).length c0_21), (8, .slice a3_21 (x20.2.1).length c3_21), (9, .int .i64 x20.2.2)] _ _ _ (by kernel_rfl) ?_
    refine x_end rfl (k_then ?_)
    refine c_seq ?_
    refine c_seq (c_plain ?_)
    refine x_pure 3 [(41, .int .i64 x20.2.2), (42, .bool (x20.2.2 != 0)), (43, .bool (x20.2.2 != 0))] _ _ _ (by kernel_rfl) ?_
    refine x_split 43 (x20.2.2 != 0) rfl (fun hb => ?_) (fun hb => ?_)
    · replace h := ite_t hb h
      refine x_pure 6 [(44, undef), (45, undef), (46, undef), (47, undef), (48, undef), (49, .bool true)] _ _ _ (by kernel_rfl) ?_
      refine x_end rfl (k_then ?_)
      refine c_norm [(4, .pointer (some ⟨b9, 0, none⟩)), (5, .pointer (some ⟨b15, 0, none⟩)), (6, .int .i64 time_s6_l18), (7, .slice a0_21 (x20.1).length c0_21), (8, .slice a3_21 (x20.2.1).length c3_21), (49, .bool true)] ⟨rfl, rfl, rfl, rfl, rfl, rfl, trivial⟩ (fun J => ?_)
      refine c_true rfl ?_
      refine c_seq (c_plain ?_)
      refine x_pure 1 [(2, .bool false)] _ _ _ (by kernel_rfl) ?_
      refine x_end rfl (k_then ?_)
      refine c_ret ?_
      refine k_then_ret ?_
      refine k_block_ret ?_
      refine k_then_ret ?_
      have hx := some_inj h
      subst hx
      have hy := some_inj hn18
      subst hy
      replace h := h18
      refine k_then_ret ?_
      refine k_block_ret ?_
      refine k_then_ret ?_
      refine r_ret (r_vals [.bool false] ⟨rfl, trivial⟩ ?_)
      have hx := some_inj h
      subst hx
      have hmr : MS w21 [M] := hms.pick [some 2] _ rfl
      have hsu : ∀ x ∈ fl [M], x ∈ fl [[b9], [b15], M] := pick_sub [some 2] _ rfl
      exact ⟨rfl, hev⟩
    replace h := ite_f hb h
    refine x_pure 1 [(44, .slice a0_21 (x20.1).length c0_21)] _ _ _ (by kernel_rfl) ?_
    refine x_len (vs := [.slice a0_21 (x20.1).length c0_21]) (.int .i64 ((x20.1).length : Int)) rfl rfl rfl (reads_len tsl32 _ _ _ _ _) ?_
    refine x_fieldAddr (xv := .pointer (some ⟨b15, 0, none⟩)) (.pointer (some ⟨b15, 0, none⟩)) rfl rfl rfl (reads_field tfld30_0 _ _) ?_
    refine x_load (xv := .pointer (some ⟨b15, 0, none⟩)) (.int .i64 x12.1.1) rfl rfl rfl (reads_box tcell3 hb15 nn 0 _ rfl) ?_
    refine x_pure 2 [(48, .bool (((x20.1).length : Int) != x12.1.1)), (49, .bool (((x20.1).length : Int) != x12.1.1))] _ _ _ (by kernel_rfl) ?_
    refine x_end rfl (k_then ?_)
    refine c_norm [(4, .pointer (some ⟨b9, 0, none⟩)), (5, .pointer (some ⟨b15, 0, none⟩)), (6, .int .i64 time_s6_l18), (7, .slice a0_21 (x20.1).length c0_21), (8, .slice a3_21 (x20.2.1).length c3_21), (49, .bool (((x20.1).length : Int) != x12.1.1))] ⟨rfl, rfl, rfl, rfl, rfl, rfl, trivial⟩ (fun J => ?_)
    refine c_cond (((x20.1).length : Int) != x12.1.1) rfl (fun hb => ?_) (fun hb => ?_)
    · replace h := ite_t hb h
      refine c_seq (c_plain ?_)
      refine x_pure 1 [(2, .bool false)] _ _ _ (by kernel_rfl) ?_
      refine x_end rfl (k_then ?_)
      refine c_ret ?_
      refine k_then_ret ?_
      refine k_block_ret ?_
      refine k_then_ret ?_
      have hx := some_inj h
      subst hx
      have hy := some_inj hn18
      subst hy
      replace h := h18
      refine k_then_ret ?_
      refine k_block_ret ?_
      refine k_then_ret ?_
      refine r_ret (r_vals [.bool false] ⟨rfl, trivial⟩ ?_)
      have hx := some_inj h
      subst hx
      have hmr : MS w21 [M] := hms.pick [some 2] _ rfl
      have hsu : ∀ x ∈ fl [M], x ∈ fl [[b9], [b15], M] := pick_sub [some 2] _ rfl
      exact ⟨rfl, hev⟩
    replace h := ite_f hb h
    refine c_skip ?_
    refine k_then ?_
    refine c_seq (c_plain ?_)
    refine x_fieldAddr (xv := .pointer (some ⟨b9, 0, none⟩)) (.pointer (some ⟨b9, 0, none⟩)) rfl rfl rfl (reads_field tfld27_0 _ _) ?_
    refine x_load (xv := .pointer (some ⟨b9, 0, none⟩)) (.slice a0_7 (x6.1.1).length c0_7) rfl rfl rfl (reads_box tcell25 hb9 nn 0 _ rfl) ?_
    refine x_len (vs := [.slice a0_7 (x6.1.1).length c0_7]) (.int .i64 ((x6.1.1).length : Int)) rfl rfl rfl (reads_len tsl25 _ _ _ _ _) ?_
    have hg := guard_l h
    replace h := guard_r h
    obtain ⟨a25, c25, w25, hr25, he25, hn25, hw25⟩ := own_make (e := (eInt .i64)) tel22 w21 ((x6.1.1).length : Int) hg.1 hg.2 0 (fun _ _ => rfl)
    refine x_makeSlice _ w25 (xv := .int .i64 ((x6.1.1).length : Int)) (yv := .int .i64 ((x6.1.1).length : Int)) rfl rfl rfl rfl hr25 ?_
    refine ⟨.inl rfl, ?_⟩
    have hst := Stp.push (ls := [[b9], [b15], M]) (l := blk a25) he25 (fun _ h => by cases h) (fun b hb => (hn25 b hb).1)
    replace hb9 := he25.box hb9 nn
    replace hf7_1 := hf7_1.step hst
    replace hb15 := he25.box hb15 nn
    replace hf13_1 := hf13_1.step hst
    replace hf21_1 := hf21_1.step hst
    replace hf21_2 := hf21_2.step hst
    replace hms := hms.push he25 hn25
    replace hfr := hfr.push (fun b hb => Nat.le_trans hev.size (hn25 b hb).1)
    replace hev := hev.ext he25
    have ho25 := hw25 (fl [blk a25, [b9], [b15], M])
    clear hw25
    refine x_pure 1 [(10, .slice a25 ((List.replicate (Int.toNat ((x6.1.1).length : Int)) 0 : List Int)).length c25)] _ _ _ (by kernel_rfl) ?_
    refine x_end rfl (k_then ?_)
    refine c_seq ?_
    refine c_seq (c_plain ?_)
    refine x_pure 2 [(54, .slice a0_21 (x20.1).length c0_21), (55, .slice a3_21 (x20.2.1).length c3_21)] _ _ _ (by kernel_rfl) ?_
    refine x_buildSlice (vs := [(0, .slice a0_21 (x20.1).length c0_21), (1, .slice a3_21 (x20.2.1).length c3_21)]) #[.slice a0_21 (x20.1).length c0_21, .slice a3_21 (x20.2.1).length c3_21] 32 rfl rfl rfl (by kernel_rfl) (fun b28 w28 hq28 hb28 he28 _ => ?_)
    refine ⟨.inl rfl, ?_⟩
    have hms0 := hms
    have hst := Stp.ext (ls := [blk a25, [b9], [b15], M]) he28
    replace hb9 := he28.box hb9 nn
    replace hf7_1 := hf7_1.step hst
    replace hb15 := he28.box hb15 nn
    replace hf13_1 := hf13_1.step hst
    replace hf21_1 := hf21_1.step hst
    replace hf21_2 := hf21_2.step hst
    replace ho25 := ho25.step hst he28 nn2
    replace hms := hms.ev he28
    replace hev := hev.ext he28
    have hs28 : SlR (eSl (eSl (eInt .i64))) w28 (fl [blk a25, [b9], [b15], M]) (some ⟨b28, 0, none⟩) 2 ([x20.1, x20.2.1] : List (List (List Int))) := ro_of_box hms0 hq28 hb28 rfl rfl (cells_at (cs := [.slice a0_21 (x20.1).length c0_21, .slice a3_21 (x20.2.1).length c3_21]) (CellsOf.cons (c := [.slice a0_21 (x20.1).length c0_21]) ⟨a0_21, c0_21, rfl, hf21_1⟩ (CellsOf.cons (c := [.slice a3_21 (x20.2.1).length c3_21]) ⟨a3_21, c3_21, rfl, hf21_2⟩ CellsOf.nil)))
    clear hb28 hms0
    refine x_len (vs := [.slice (some ⟨b28, 0, none⟩) (([x20.1, x20.2.1] : List (List (List Int)))).length 2]) (.int .i64 ((([x20.1, x20.2.1] : List (List (List Int)))).length : Int)) rfl rfl rfl (reads_len tsl44 _ _ _ _ _) ?_
    refine x_pure 1 [(58, .int .i64 0)] _ _ _ (by kernel_rfl) ?_
    refine x_end rfl (k_then ?_)
    refine c_block ?_
    have hpk : MS w28 [[b9], [b15], blk a25, M] := hms.pick [some 1, some 2, some 0, some 3] _ rfl
    have hsu : ∀ x ∈ fl [[b9], [b15], blk a25, M], x ∈ fl [blk a25, [b9], [b15], M] := pick_sub [some 1, some 2, some 0, some 3] _ rfl
    replace hf7_1 := hf7_1.sub hsu
    replace hf13_1 := hf13_1.sub hsu
    replace hf21_1 := hf21_1.sub hsu
    replace ho25 := ho25.sub hsu
    replace hs28 := hs28.sub hsu
    replace hms := hpk
    replace hfr : FR w.heap.size [[b9], [b15], blk a25] := hfr.pick [some 1, some 2, some 0] _ rfl
    clear hpk hsu
    obtain ⟨d30, hd30, h30⟩ := bind_some h
    obtain ⟨m30, hd30⟩ := loop_some hd30
    refine c_loop (loop_rule hmx (σ := Nat × (List Int) × Int × Option Addr) (fun s => match s with | (_, d26_l30, t58__s58_l30, a26_l30) => [(4, .pointer (some ⟨b9, 0, none⟩)), (5, .pointer (some ⟨b15, 0, none⟩)), (6, .int .i64 time_s6_l18), (7, .slice a0_21 (x20.1).length c0_21), (10, .slice a26_l30 (d26_l30).length c25), (56, .slice (some ⟨b28, 0, none⟩) (([x20.1, x20.2.1] : List (List (List Int)))).length 2), (57, .int .i64 ((([x20.1, x20.2.1] : List (List (List Int)))).length : Int)), (58, .int .i64 t58__s58_l30)]) (fun s w' => match s with | (m, d26_l30, t58__s58_l30, a26_l30) => loopN (law14_RollinTrack_L30 x20) m (d26_l30, t58__s58_l30) = some d30 ∧ Ev [] w w' ∧ MS w' [[b9], [b15], blk a26_l30, M] ∧ FR w.heap.size [[b9], [b15], blk a26_l30] ∧ SlR (eProd (eInt .i64) (eProd (eInt .i64) (eProd (eInt .i64) (eInt .i64)))) w' (fl [[b9], [b15], blk a26_l30, M]) a0_7 c0_7 x6.1.1 ∧ w'.heap[b9]? = some (.cells #[.slice a0_7 (x6.1.1).length c0_7, .int .i64 x6.1.2] 27 (0, 0)) ∧ SlR (eInt .i64) w' (fl [[b9], [b15], blk a26_l30, M]) a0_13 c0_13 x12.1.2 ∧ w'.heap[b15]? = some (.cells #[.int .i64 x12.1.1, .slice a0_13 (x12.1.2).length c0_13] 30 (0, 0)) ∧ SlR (eSl (eInt .i64)) w' (fl [[b9], [b15], blk a26_l30, M]) a0_21 c0_21 x20.1 ∧ OwnS (eInt .i64) 3 w' (fl [[b9], [b15], blk a26_l30, M]) a26_l30 c25 d26_l30 ∧ SlR (eSl (eSl (eInt .i64))) w' (fl [[b9], [b15], blk a26_l30, M]) (some ⟨b28, 0, none⟩) 2 ([x20.1, x20.2.1] : List (List (List Int)))) (fun s => s.1) (m30, (List.replicate (Int.toNat ((x6.1.1).length : Int)) 0 : List Int), 0, a25) ⟨rfl, rfl, rfl, rfl, rfl, rfl, rfl, rfl, trivial⟩ ⟨hd30, hev, hms, hfr, hf7_1, hb9, hf13_1, hb15, hf21_1, ho25, hs28⟩ ?_)
    rintro ⟨m30, d26_l30, t58__s58_l30, a26_l30⟩ J wl30 ⟨hn30, hev, hms, hfr, hf7_1, hb9, hf13_1, hb15, hf21_1, ho25, hs28⟩
    rcases m30 with _ | m30
    · exact (loopN_zero hn30).elim
    obtain ⟨t30, h, hn30⟩ := bind_some hn30
    refine c_seq (c_plain ?_)
    refine x_pure 1 [(59, .bool (decide (t58__s58_l30 < ((([x20.1, x20.2.1] : List (List (List Int)))).length : Int))))] _ _ _ (by kernel_rfl) ?_
    refine x_end rfl (k_then ?_)
    refine c_norm [(4, .pointer (some ⟨b9, 0, none⟩)), (5, .pointer (some ⟨b15, 0, none⟩)), (6, .int .i64 time_s6_l18), (7, .slice a0_21 (x20.1).length c0_21), (10, .slice a26_l30 (d26_l30).length c25), (56, .slice (some ⟨b28, 0, none⟩) (([x20.1, x20.2.1] : List (List (List Int)))).length 2), (57, .int .i64 ((([x20.1, x20.2.1] : List (List (List Int)))).length : Int)), (58, .int .i64 t58__s58_l30), (59, .bool (decide (t58__s58_l30 < ((([x20.1, x20.2.1] : List (List (List Int)))).length : Int))))] ⟨rfl, rfl, rfl, rfl, rfl, rfl, rfl, rfl, rfl, trivial⟩ (fun J => ?_)
    refine c_seq ?_
    refine c_cond (decide (t58__s58_l30 < ((([x20.1, x20.2.1] : List (List (List Int)))).length : Int))) rfl (fun hb => ?_) (fun hb => ?_)
    · replace h := ite_t hb h
      refine c_skip ?_
      refine k_then ?_
      refine c_seq ?_
      refine c_block ?_
      refine c_seq (c_plain ?_)
      obtain ⟨x32, hx32, h⟩ := bind_some h
      obtain ⟨ad32, cs32, hr32, hc32, hR⟩ := reads_index (Mo := []) tsl44 hs28 hx32
      obtain ⟨a33, c33, rfl, hs33⟩ := hR
      refine x_indexAddr (xv := .slice (some ⟨b28, 0, none⟩) (([x20.1, x20.2.1] : List (List (List Int)))).length 2) (yv := .int .i64 t58__s58_l30) (.pointer (some ad32)) rfl rfl rfl rfl hr32 ?_
      refine x_load (xv := .pointer (some ad32)) (.slice a33 (x32).length c33) rfl rfl rfl (reads_cell0 tcell32 hc32 (fun _ h => by cases h)) ?_
      refine x_pure 1 [(12, .slice a33 (x32).length c33)] _ _ _ (by kernel_rfl) ?_
      refine x_end rfl (k_then ?_)
      refine c_seq (c_plain ?_)
      refine x_pure 1 [(62, .slice a33 (x32).length c33)] _ _ _ (by kernel_rfl) ?_
      refine x_len (vs := [.slice a33 (x32).length c33]) (.int .i64 ((x32).length : Int)) rfl rfl rfl (reads_len tsl32 _ _ _ _ _) ?_
      refine x_pure 1 [(64, .int .i64 0)] _ _ _ (by kernel_rfl) ?_
      refine x_end rfl (k_then ?_)
      refine c_block ?_
      obtain ⟨d36, hd36, h36⟩ := bind_some h
      obtain ⟨m36, hd36⟩ := loop_some hd36
      refine c_loop (loop_rule hmx (σ := Nat × (List Int) × Int × Option Addr) (fun s => match s with | (_, d26_l36, t64__s64_l36, a26_l36) => [(4, .pointer (some ⟨b9, 0, none⟩)), (5, .pointer (some ⟨b15, 0, none⟩)), (6, .int .i64 time_s6_l18), (7, .slice a0_21 (x20.1).length c0_21), (10, .slice a26_l36 (d26_l36).length c25), (56, .slice (some ⟨b28, 0, none⟩) (([x20.1, x20.2.1] : List (List (List Int)))).length 2), (57, .int .i64 ((([x20.1, x20.2.1] : List (List (List Int)))).length : Int)), (58, .int .i64 t58__s58_l30), (62, .slice a33 (x32).length c33), (63, .int .i64 ((x32).length : Int)), (64, .int .i64 t64__s64_l36)]) (fun s w' => match s with | (m, d26_l36, t64__s64_l36, a26_l36) => loopN (law14_RollinTrack_L36 x32) m (d26_l36, t64__s64_l36) = some d36 ∧ Ev [] w w' ∧ MS w' [[b9], [b15], blk a26_l36, M] ∧ FR w.heap.size [[b9], [b15], blk a26_l36] ∧ SlR (eProd (eInt .i64) (eProd (eInt .i64) (eProd (eInt .i64) (eInt .i64)))) w' (fl [[b9], [b15], blk a26_l36, M]) a0_7 c0_7 x6.1.1 ∧ w'.heap[b9]? = some (.cells #[.slice a0_7 (x6.1.1).length c0_7, .int .i64 x6.1.2] 27 (0, 0)) ∧ SlR (eInt .i64) w' (fl [[b9], [b15], blk a26_l36, M]) a0_13 c0_13 x12.1.2 ∧ w'.heap[b15]? = some (.cells #[.int .i64 x12.1.1, .slice a0_13 (x12.1.2).length c0_13] 30 (0, 0)) ∧ SlR (eSl (eInt .i64)) w' (fl [[b9], [b15], blk a26_l36, M]) a0_21 c0_21 x20.1 ∧ OwnS (eInt .i64) 3 w' (fl [[b9], [b15], blk a26_l36, M]) a26_l36 c25 d26_l36 ∧ SlR (eSl (eSl (eInt .i64))) w' (fl [[b9], [b15], blk a26_l36, M]) (some ⟨b28, 0, none⟩) 2 ([x20.1, x20.2.1] : List (List (List Int))) ∧ SlR (eSl (eInt .i64)) w' (fl [[b9], [b15], blk a26_l36, M]) a33 c33 x32) (fun s => s.1) (m36, d26_l30, 0, a26_l30) ⟨rfl, rfl, rfl, rfl, rfl, rfl, rfl, rfl, rfl, rfl, rfl, trivial⟩ ⟨hd36, hev, hms, hfr, hf7_1, hb9, hf13_1, hb15, hf21_1, ho25, hs28, hs33⟩ ?_)
      rintro ⟨m36, d26_l36, t64__s64_l36, a26_l36⟩ J wl36 ⟨hn36, hev, hms, hfr, hf7_1, hb9, hf13_1, hb15, hf21_1, ho25, hs28, hs33⟩
      rcases m36 with _ | m36
      · exact (loopN_zero hn36).elim
      obtain ⟨t36, h, hn36⟩ := bind_some hn36
      refine c_seq (c_plain ?_)
      refine x_pure 1 [(65, .bool (decide (t64__s64_l36 < ((x32).length : Int))))] _ _ _ (by kernel_rfl) ?_
      refine x_end rfl (k_then ?_)
      refine c_norm [(4, .pointer (some ⟨b9, 0, none⟩)), (5, .pointer (some ⟨b15, 0, none⟩)), (6, .int .i64 time_s6_l18), (7, .slice a0_21 (x20.1).length c0_21), (10, .slice a26_l36 (d26_l36).length c25), (56, .slice (some ⟨b28, 0, none⟩) (([x20.1, x20.2.1] : List (List (List Int)))).length 2), (57, .int .i64 ((([x20.1, x20.2.1] : List (List (List Int)))).length : Int)), (58, .int .i64 t58__s58_l30), (62, .slice a33 (x32).length c33), (63, .int .i64 ((x32).length : Int)), (64, .int .i64 t64__s64_l36), (65, .bool (decide (t64__s64_l36 < ((x32).length : Int))))] ⟨rfl, rfl, rfl, rfl, rfl, rfl, rfl, rfl, rfl, rfl, rfl, rfl, trivial⟩ (fun J => ?_)
      refine c_seq ?_
      refine c_cond (decide (t64__s64_l36 < ((x32).length : Int))) rfl (fun hb => ?_) (fun hb => ?_)
      · replace h := ite_t hb h
        refine c_skip ?_
        refine k_then ?_
        refine c_seq ?_
        refine c_block ?_
        refine c_seq (c_plain ?_)
        obtain ⟨x38, hx38, h⟩ := bind_some h
        obtain ⟨ad38, cs38, hr38, hc38, hR⟩ := reads_index (Mo := []) tsl32 hs33 hx38
        obtain ⟨a39, c39, rfl, hs39⟩ := hR
        refine x_indexAddr (xv := .slice a33 (x32).length c33) (yv := .int .i64 t64__s64_l36) (.pointer (some ad38)) rfl rfl rfl rfl hr38 ?_
        refine x_load (xv := .pointer (some ad38)) (.slice a39 (x38).length c39) rfl rfl rfl (reads_cell0 tcell22 hc38 (fun _ h => by cases h)) ?_
        refine x_pure 1 [(14, .slice a39 (x38).length c39)] _ _ _ (by kernel_rfl) ?_
        refine x_end rfl (k_then ?_)
        refine c_seq (c_plain ?_)
        refine x_pure 1 [(68, .slice a39 (x38).length c39)] _ _ _ (by kernel_rfl) ?_
        refine x_len (vs := [.slice a39 (x38).length c39]) (.int .i64 ((x38).length : Int)) rfl rfl rfl (reads_len tsl22 _ _ _ _ _) ?_
        refine x_pure 1 [(70, .int .i64 0)] _ _ _ (by kernel_rfl) ?_
        refine x_end rfl (k_then ?_)
        refine c_block ?_
        obtain ⟨d42, hd42, h42⟩ := bind_some h
        obtain ⟨m42, hd42⟩ := loop_some hd42
        refine c_loop (loop_rule hmx (σ := Nat × (List Int) × Int × Option Addr) (fun s => match s with | (_, d26_l42, t70__s70_l42, a26_l42) => [(4, .pointer (some ⟨b9, 0, none⟩)), (5, .pointer (some ⟨b15, 0, none⟩)), (6, .int .i64 time_s6_l18), (7, .slice a0_21 (x20.1).length c0_21), (10, .slice a26_l42 (d26_l42).length c25), (56, .slice (some ⟨b28, 0, none⟩) (([x20.1, x20.2.1] : List (List (List Int)))).length 2), (57, .int .i64 ((([x20.1, x20.2.1] : List (List (List Int)))).length : Int)), (58, .int .i64 t58__s58_l30), (62, .slice a33 (x32).length c33), (63, .int .i64 ((x32).length : Int)), (64, .int .i64 t64__s64_l36), (68, .slice a39 (x38).length c39), (69, .int .i64 ((x38).length : Int)), (70, .int .i64 t70__s70_l42)]) (fun s w' => match s with | (m, d26_l42, t70__s70_l42, a26_l42) => loopN (law14_RollinTrack_L42 x38) m (d26_l42, t70__s70_l42) = some d42 ∧ Ev [] w w' ∧ MS w' [[b9], [b15], blk a26_l42, M] ∧ FR w.heap.size [[b9], [b15], blk a26_l42] ∧ SlR (eProd (eInt .i64) (eProd (eInt .i64) (eProd (eInt .i64) (eInt .i64)))) w' (fl [[b9], [b15], blk a26_l42, M]) a0_7 c0_7 x6.1.1 ∧ w'.heap[b9]? = some (.cells #[.slice a0_7 (x6.1.1).length c0_7, .int .i64 x6.1.2] 27 (0, 0)) ∧ SlR (eInt .i64) w' (fl [[b9], [b15], blk a26_l42, M]) a0_13 c0_13 x12.1.2 ∧ w'.heap[b15]? = some (.cells #[.int .i64 x12.1.1, .slice a0_13 (x12.1.2).length c0_13] 30 (0, 0)) ∧ SlR (eSl (eInt .i64)) w' (fl [[b9], [b15], blk a26_l42, M]) a0_21 c0_21 x20.1 ∧ OwnS (eInt .i64) 3 w' (fl [[b9], [b15], blk a26_l42, M]) a26_l42 c25 d26_l42 ∧ SlR (eSl (eSl (eInt .i64))) w' (fl [[b9], [b15], blk a26_l42, M]) (some ⟨b28, 0, none⟩) 2 ([x20.1, x20.2.1] : List (List (List Int))) ∧ SlR (eSl (eInt .i64)) w' (fl [[b9], [b15], blk a26_l42, M]) a33 c33 x32 ∧ SlR (eInt .i64) w' (fl [[b9], [b15], blk a26_l42, M]) a39 c39 x38) (fun s => s.1) (m42, d26_l36, 0, a26_l36) ⟨rfl, rfl, rfl, rfl, rfl, rfl, rfl, rfl, rfl, rfl, rfl, rfl, rfl, rfl, trivial⟩ ⟨hd42, hev, hms, hfr, hf7_1, hb9, hf13_1, hb15, hf21_1, ho25, hs28, hs33, hs39⟩ ?_)
        rintro ⟨m42, d26_l42, t70__s70_l42, a26_l42⟩ J wl42 ⟨hn42, hev, hms, hfr, hf7_1, hb9, hf13_1, hb15, hf21_1, ho25, hs28, hs33, hs39⟩
        rcases m42 with _ | m42
        · exact (loopN_zero hn42).elim
        obtain ⟨t42, h, hn42⟩ := bind_some hn42
        refine c_seq (c_plain ?_)
        refine x_pure 1 [(71, .bool (decide (t70__s70_l42 < ((x38).length : Int))))] _ _ _ (by kernel_rfl) ?_
        refine x_end rfl (k_then ?_)
        refine c_norm [(4, .pointer (some ⟨b9, 0, none⟩)), (5, .pointer (some ⟨b15, 0, none⟩)), (6, .int .i64 time_s6_l18), (7, .slice a0_21 (x20.1).length c0_21), (10, .slice a26_l42 (d26_l42).length c25), (56, .slice (some ⟨b28, 0, none⟩) (([x20.1, x20.2.1] : List (List (List Int)))).length 2), (57, .int .i64 ((([x20.1, x20.2.1] : List (List (List Int)))).length : Int)), (58, .int .i64 t58__s58_l30), (62, .slice a33 (x32).length c33), (63, .int .i64 ((x32).length : Int)), (64, .int .i64 t64__s64_l36), (68, .slice a39 (x38).length c39), (69, .int .i64 ((x38).length : Int)), (70, .int .i64 t70__s70_l42), (71, .bool (decide (t70__s70_l42 < ((x38).length : Int))))] ⟨rfl, rfl, rfl, rfl, rfl, rfl, rfl, rfl, rfl, rfl, rfl, rfl, rfl, rfl, rfl, trivial⟩ (fun J => ?_)
        refine c_seq ?_
        refine c_cond (decide (t70__s70_l42 < ((x38).length : Int))) rfl (fun hb => ?_) (fun hb => ?_)
        · replace h := ite_t hb h
          refine c_skip ?_
          refine k_then ?_
          refine c_seq ?_
          refine c_block ?_
          refine c_seq (c_plain ?_)
          obtain ⟨x44, hx44, h⟩ := bind_some h
          obtain ⟨ad44, cs44, hr44, hc44, hR⟩ := reads_index (Mo := []) tsl22 hs39 hx44
          obtain rfl := hR
          refine x_indexAddr (xv := .slice a39 (x38).length c39) (yv := .int .i64 t70__s70_l42) (.pointer (some ad44)) rfl rfl rfl rfl hr44 ?_
          refine x_load (xv := .pointer (some ad44)) (.int .i64 x44) rfl rfl rfl (reads_cell0 tcell3 hc44 (fun _ h => by cases h)) ?_
          refine x_pure 1 [(16, .int .i64 x44)] _ _ _ (by kernel_rfl) ?_
          refine x_end rfl (k_then ?_)
          refine c_seq ?_
          refine c_seq (c_plain ?_)
          refine x_pure 3 [(74, .int .i64 x44), (75, .bool (decide (x44 < 0))), (76, .bool (decide (x44 < 0)))] _ _ _ (by kernel_rfl) ?_
          refine x_split 76 (decide (x44 < 0)) rfl (fun hb => ?_) (fun hb => ?_)
          · replace h := ite_t hb h
            refine x_pure 5 [(77, undef), (78, undef), (79, undef), (80, undef), (81, .bool true)] _ _ _ (by kernel_rfl) ?_
            refine x_end rfl (k_then ?_)
            refine c_true rfl ?_
            refine c_seq (c_plain ?_)
            refine x_pure 1 [(2, .bool false)] _ _ _ (by kernel_rfl) ?_
            refine x_end rfl (k_then ?_)
            refine c_norm [(2, .bool false)] ⟨rfl, trivial⟩ (fun J => ?_)
            refine c_ret ?_
            refine k_then_ret ?_
            refine k_block_ret ?_
            refine k_then_ret ?_
            have hx := some_inj h
            subst hx
            have hy := some_inj hn42
            subst hy
            replace h := h42
            refine k_then_ret ?_
            refine k_block_ret ?_
            refine k_block_ret ?_
            refine k_then_ret ?_
            have hx := some_inj h
            subst hx
            have hy := some_inj hn36
            subst hy
            replace h := h36
            refine k_then_ret ?_
            refine k_block_ret ?_
            refine k_block_ret ?_
            refine k_then_ret ?_
            have hx := some_inj h
            subst hx
            have hy := some_inj hn30
            subst hy
            replace h := h30
            refine k_then_ret ?_
            refine k_block_ret ?_
            refine k_then_ret ?_
            refine k_block_ret ?_
            refine k_then_ret ?_
            have hx := some_inj h
            subst hx
            have hy := some_inj hn18
            subst hy
            replace h := h18
            refine k_then_ret ?_
            refine k_block_ret ?_
            refine k_then_ret ?_
            refine r_ret (r_vals [.bool false] ⟨rfl, trivial⟩ ?_)
            have hx := some_inj h
            subst hx
            have hmr : MS wl42 [M] := hms.pick [some 3] _ rfl
            have hsu : ∀ x ∈ fl [M], x ∈ fl [[b9], [b15], blk a26_l42, M] := pick_sub [some 3] _ rfl
            exact ⟨rfl, hev⟩
          replace h := ite_f hb h
          refine x_pure 2 [(77, .int .i64 x44), (78, .slice a26_l42 (d26_l42).length c25)] _ _ _ (by kernel_rfl) ?_
          refine x_len (vs := [.slice a26_l42 (d26_l42).length c25]) (.int .i64 ((d26_l42).length : Int)) rfl rfl rfl (reads_len tsl22 _ _ _ _ _) ?_
          refine x_pure 2 [(80, .bool (decide (x44 ≥ ((d26_l42).length : Int)))), (81, .bool (decide (x44 ≥ ((d26_l42).length : Int))))] _ _ _ (by kernel_rfl) ?_
          refine x_end rfl (k_then ?_)
          refine c_cond (decide (x44 ≥ ((d26_l42).length : Int))) rfl (fun hb => ?_) (fun hb => ?_)
          · replace h := ite_t hb h
            refine c_seq (c_plain ?_)
            refine x_pure 1 [(2, .bool false)] _ _ _ (by kernel_rfl) ?_
            refine x_end rfl (k_then ?_)
            refine c_norm [(2, .bool false)] ⟨rfl, trivial⟩ (fun J => ?_)
            refine c_ret ?_
            refine k_then_ret ?_
            refine k_block_ret ?_
            refine k_then_ret ?_
            have hx := some_inj h
            subst hx
            have hy := some_inj hn42
            subst hy
            replace h := h42
            refine k_then_ret ?_
            refine k_block_ret ?_
            refine k_block_ret ?_
            refine k_then_ret ?_
            have hx := some_inj h
            subst hx
            have hy := some_inj hn36
            subst hy
            replace h := h36
            refine k_then_ret ?_
            refine k_block_ret ?_
            refine k_block_ret ?_
            refine k_then_ret ?_
            have hx := some_inj h
            subst hx
            have hy := some_inj hn30
            subst hy
            replace h := h30
            refine k_then_ret ?_
            refine k_block_ret ?_
            refine k_then_ret ?_
            refine k_block_ret ?_
            refine k_then_ret ?_
            have hx := some_inj h
            subst hx
            have hy := some_inj hn18
            subst hy
            replace h := h18
            refine k_then_ret ?_
            refine k_block_ret ?_
            refine k_then_ret ?_
            refine r_ret (r_vals [.bool false] ⟨rfl, trivial⟩ ?_)
            have hx := some_inj h
            subst hx
            have hmr : MS wl42 [M] := hms.pick [some 3] _ rfl
            have hsu : ∀ x ∈ fl [M], x ∈ fl [[b9], [b15], blk a26_l42, M] := pick_sub [some 3] _ rfl
            exact ⟨rfl, hev⟩
          replace h := ite_f hb h
          refine c_skip ?_
          refine k_then ?_
          refine c_norm [(4, .pointer (some ⟨b9, 0, none⟩)), (5, .pointer (some ⟨b15, 0, none⟩)), (6, .int .i64 time_s6_l18), (7, .slice a0_21 (x20.1).length c0_21), (10, .slice a26_l42 (d26_l42).length c25), (16, .int .i64 x44), (56, .slice (some ⟨b28, 0, none⟩) (([x20.1, x20.2.1] : List (List (List Int)))).length 2), (57, .int .i64 ((([x20.1, x20.2.1] : List (List (List Int)))).length : Int)), (58, .int .i64 t58__s58_l30), (62, .slice a33 (x32).length c33), (63, .int .i64 ((x32).length : Int)), (64, .int .i64 t64__s64_l36), (68, .slice a39 (x38).length c39), (69, .int .i64 ((x38).length : Int)), (70, .int .i64 t70__s70_l42)] ⟨rfl, rfl, rfl, rfl, rfl, rfl, rfl, rfl, rfl, rfl, rfl, rfl, rfl, rfl, rfl, trivial⟩ (fun J => ?_)
          refine c_plain ?_
          refine x_pure 2 [(82, .slice a26_l42 (d26_l42).length c25), (83, .int .i64 x44)] _ _ _ (by kernel_rfl) ?_
          obtain ⟨x46, hx46, h⟩ := bind_some h
          obtain ⟨g46, cs46, ha, hr46, hc46, hR⟩ := own_index (Mo := []) tsl22 ho25 hx46
          subst ha
          obtain rfl := hR
          refine x_indexAddr (xv := .slice (some ⟨g46, 0, none⟩) (d26_l42).length c25) (yv := .int .i64 x44) (.pointer (some ⟨g46, (Int.toNat x44) * (eInt .i64).n, none⟩)) rfl rfl rfl rfl hr46 ?_
          refine x_load (xv := .pointer (some ⟨g46, (Int.toNat x44) * (eInt .i64).n, none⟩)) (.int .i64 x46) rfl rfl rfl (reads_cell0 tcell3 hc46 (fun _ h => by cases h)) ?_
          refine x_pure 1 [(86, .int .i64 (IntKind.i64.wrap (x46 + 1)))] _ _ _ (by kernel_rfl) ?_
          obtain ⟨x48, hx48, h⟩ := bind_some h
          obtain ⟨g48, cs48, ha, hr48, hc48, hR⟩ := own_index (Mo := []) tsl22 ho25 hx48
          have hg : g46 = g48 := by cases ha; rfl
          subst hg
          obtain rfl := hR
          refine x_indexAddr (xv := .slice (some ⟨g46, 0, none⟩) (d26_l42).length c25) (yv := .int .i64 x44) (.pointer (some ⟨g46, (Int.toNat x44) * (eInt .i64).n, none⟩)) rfl rfl rfl rfl hr48 ?_
          obtain ⟨w50, hr50, he50, ho50⟩ := own_store (y := IntKind.i64.wrap (x46 + 1)) 0 (.int .i64 (IntKind.i64.wrap (x46 + 1))) tcell3 ho25 (mem_flat 2 rfl _ (List.mem_singleton.2 rfl)) hx48 rfl rfl (fun _ _ _ _ => by simp_all [eInt, eBool])
          refine x_store w50 (xv := .pointer (some ⟨g46, (Int.toNat x44) * (eInt .i64).n, none⟩)) (yv := .int .i64 (IntKind.i64.wrap (x46 + 1))) rfl rfl rfl rfl hr50 ?_
          refine ⟨.inl rfl, ?_⟩
          have hst := Stp.ev' (ls := [[b9], [b15], blk (some ⟨g46, 0, none⟩), M]) he50 (mem_flat 2 rfl)
          replace hb9 := he50.box hb9 (hms.apart 0 2 rfl rfl rfl _ (List.mem_singleton.2 rfl))
          replace hf7_1 := hf7_1.step hst
          replace hb15 := he50.box hb15 (hms.apart 1 2 rfl rfl rfl _ (List.mem_singleton.2 rfl))
          replace hf13_1 := hf13_1.step hst
          replace hf21_1 := hf21_1.step hst
          replace hs28 := hs28.step hst
          replace hs33 := hs33.step hst
          replace hs39 := hs39.step hst
          replace hms := hms.ev he50
          replace hev := hev.then he50 (fun b hb => .inr (hfr.at 2 rfl b hb))
          replace ho25 := ho50
          have hsl : (Value.slice (some ⟨g46, 0, none⟩) (d26_l42).length c25) = (Value.slice (some ⟨g46, 0, none⟩) ((d26_l42.set (Int.toNat x44) (IntKind.i64.wrap (x46 + 1)))).length c25) := by rw [List.length_set]
          try rw [hsl]
          clear hsl
          refine x_end rfl ?_
          refine k_block ?_
          refine k_then ?_
          refine c_plain ?_
          refine x_pure 2 [(88, .int .i64 (IntKind.i64.wrap (t70__s70_l42 + 1))), (70, .int .i64 (IntKind.i64.wrap (t70__s70_l42 + 1)))] _ _ _ (by kernel_rfl) ?_
          refine x_end rfl ?_
          have hx := some_inj h
          subst hx
          exact k_then ⟨(m42, (d26_l42.set (Int.toNat x44) (IntKind.i64.wrap (x46 + 1))), IntKind.i64.wrap (t70__s70_l42 + 1), (some ⟨g46, 0, none⟩)), ⟨rfl, rfl, rfl, rfl, rfl, rfl, rfl, rfl, rfl, rfl, rfl, rfl, rfl, rfl, trivial⟩, ⟨hn42, hev, hms, hfr, hf7_1, hb9, hf13_1, hb15, hf21_1, ho25, hs28, hs33, hs39⟩, Nat.lt_succ_self _⟩
        replace h := ite_f hb h
        refine c_exit ?_
        refine k_then_exit ?_
        have hx := some_inj h
        subst hx
        have hy := some_inj hn42
        subst hy
        replace h := h42
        refine k_then_exit ?_
        refine k_block_in ?_
        refine k_block ?_
        refine k_then ?_
        refine c_norm [(4, .pointer (some ⟨b9, 0, none⟩)), (5, .pointer (some ⟨b15, 0, none⟩)), (6, .int .i64 time_s6_l18), (7, .slice a0_21 (x20.1).length c0_21), (10, .slice a26_l42 (d26_l42).length c25), (56, .slice (some ⟨b28, 0, none⟩) (([x20.1, x20.2.1] : List (List (List Int)))).length 2), (57, .int .i64 ((([x20.1, x20.2.1] : List (List (List Int)))).length : Int)), (58, .int .i64 t58__s58_l30), (62, .slice a33 (x32).length c33), (63, .int .i64 ((x32).length : Int)), (64, .int .i64 t64__s64_l36)] ⟨rfl, rfl, rfl, rfl, rfl, rfl, rfl, rfl, rfl, rfl, rfl, trivial⟩ (fun J => ?_)
        refine c_plain ?_
        refine x_pure 2 [(89, .int .i64 (IntKind.i64.wrap (t64__s64_l36 + 1))), (64, .int .i64 (IntKind.i64.wrap (t64__s64_l36 + 1)))] _ _ _ (by kernel_rfl) ?_
        refine x_end rfl ?_
        have hx := some_inj h
        subst hx
        exact k_then ⟨(m36, d26_l42, IntKind.i64.wrap (t64__s64_l36 + 1), a26_l42), ⟨rfl, rfl, rfl, rfl, rfl, rfl, rfl, rfl, rfl, rfl, rfl, trivial⟩, ⟨hn36, hev, hms, hfr, hf7_1, hb9, hf13_1, hb15, hf21_1, ho25, hs28, hs33⟩, Nat.lt_succ_self _⟩
      replace h := ite_f hb h
      refine c_exit ?_
      refine k_then_exit ?_
      have hx := some_inj h
      subst hx
      have hy := some_inj hn36
      subst hy
      replace h := h36
      refine k_then_exit ?_
      refine k_block_in ?_
      refine k_block ?_
      refine k_then ?_
      refine c_norm [(4, .pointer (some ⟨b9, 0, none⟩)), (5, .pointer (some ⟨b15, 0, none⟩)), (6, .int .i64 time_s6_l18), (7, .slice a0_21 (x20.1).length c0_21), (10, .slice a26_l36 (d26_l36).length c25), (56, .slice (some ⟨b28, 0, none⟩) (([x20.1, x20.2.1] : List (List (List Int)))).length 2), (57, .int .i64 ((([x20.1, x20.2.1] : List (List (List Int)))).length : Int)), (58, .int .i64 t58__s58_l30)] ⟨rfl, rfl, rfl, rfl, rfl, rfl, rfl, rfl, trivial⟩ (fun J => ?_)
      refine c_plain ?_
      refine x_pure 2 [(90, .int .i64 (IntKind.i64.wrap (t58__s58_l30 + 1))), (58, .int .i64 (IntKind.i64.wrap (t58__s58_l30 + 1)))] _ _ _ (by kernel_rfl) ?_
      refine x_end rfl ?_
      have hx := some_inj h
      subst hx
      exact k_then ⟨(m30, d26_l36, IntKind.i64.wrap (t58__s58_l30 + 1), a26_l36), ⟨rfl, rfl, rfl, rfl, rfl, rfl, rfl, rfl, trivial⟩, ⟨hn30, hev, hms, hfr, hf7_1, hb9, hf13_1, hb15, hf21_1, ho25, hs28⟩, Nat.lt_succ_self _⟩
    replace h := ite_f hb h
    refine c_exit ?_
    refine k_then_exit ?_
    have hx := some_inj h
    subst hx
    have hy := some_inj hn30
    subst hy
    replace h := h30
    refine k_then_exit ?_
    refine k_block_in ?_
    refine k_then ?_
    refine c_norm [(4, .pointer (some ⟨b9, 0, none⟩)), (5, .pointer (some ⟨b15, 0, none⟩)), (6, .int .i64 time_s6_l18), (7, .slice a0_21 (x20.1).length c0_21), (10, .slice a26_l30 (d26_l30).length c25)] ⟨rfl, rfl, rfl, rfl, rfl, trivial⟩ (fun J => ?_)
    refine c_seq ?_
    refine c_seq (c_plain ?_)
    refine x_pure 1 [(91, .slice a26_l30 (d26_l30).length c25)] _ _ _ (by kernel_rfl) ?_
    refine x_len (vs := [.slice a26_l30 (d26_l30).length c25]) (.int .i64 ((d26_l30).length : Int)) rfl rfl rfl (reads_len tsl22 _ _ _ _ _) ?_
    refine x_pure 1 [(93, .int .i64 0)] _ _ _ (by kernel_rfl) ?_
    refine x_end rfl (k_then ?_)
    refine c_block ?_
    obtain ⟨d52, hd52, h52⟩ := bind_some h
    obtain ⟨m52, hd52⟩ := loop_some hd52
    refine c_loop (loop_rule hmx (σ := Nat × Int × Option Addr) (fun s => match s with | (_, t93__s93_l52, a26_l52) => [(4, .pointer (some ⟨b9, 0, none⟩)), (5, .pointer (some ⟨b15, 0, none⟩)), (6, .int .i64 time_s6_l18), (7, .slice a0_21 (x20.1).length c0_21), (91, .slice a26_l52 (d26_l30).length c25), (92, .int .i64 ((d26_l30).length : Int)), (93, .int .i64 t93__s93_l52)]) (fun s w' => match s with | (m, t93__s93_l52, a26_l52) => loopN (law14_RollinTrack_L52 x6 time_s6_l18 d26_l30) m t93__s93_l52 = some d52 ∧ Ev [] w w' ∧ MS w' [[b9], [b15], blk a26_l52, M] ∧ FR w.heap.size [[b9], [b15], blk a26_l52] ∧ SlR (eProd (eInt .i64) (eProd (eInt .i64) (eProd (eInt .i64) (eInt .i64)))) w' (fl [[b9], [b15], blk a26_l52, M]) a0_7 c0_7 x6.1.1 ∧ w'.heap[b9]? = some (.cells #[.slice a0_7 (x6.1.1).length c0_7, .int .i64 x6.1.2] 27 (0, 0)) ∧ SlR (eInt .i64) w' (fl [[b9], [b15], blk a26_l52, M]) a0_13 c0_13 x12.1.2 ∧ w'.heap[b15]? = some (.cells #[.int .i64 x12.1.1, .slice a0_13 (x12.1.2).length c0_13] 30 (0, 0)) ∧ SlR (eSl (eInt .i64)) w' (fl [[b9], [b15], blk a26_l52, M]) a0_21 c0_21 x20.1 ∧ OwnS (eInt .i64) 3 w' (fl [[b9], [b15], blk a26_l52, M]) a26_l52 c25 d26_l30) (fun s => s.1) (m52, 0, a26_l30) ⟨rfl, rfl, rfl, rfl, rfl, rfl, rfl, trivial⟩ ⟨hd52, hev, hms, hfr, hf7_1, hb9, hf13_1, hb15, hf21_1, ho25⟩ ?_)
    rintro ⟨m52, t93__s93_l52, a26_l52⟩ J wl52 ⟨hn52, hev, hms, hfr, hf7_1, hb9, hf13_1, hb15, hf21_1, ho25⟩
    rcases m52 with _ | m52
    · exact (loopN_zero hn52).elim
    obtain ⟨t52, h, hn52⟩ := bind_some hn52
    refine c_seq (c_plain ?_)
    refine x_pure 1 [(94, .bool (decide (t93__s93_l52 < ((d26_l30).length : Int))))] _ _ _ (by kernel_rfl) ?_
    refine x_end rfl (k_then ?_)
    refine c_norm [(4, .pointer (some ⟨b9, 0, none⟩)), (5, .pointer (some ⟨b15, 0, none⟩)), (6, .int .i64 time_s6_l18), (7, .slice a0_21 (x20.1).length c0_21), (91, .slice a26_l52 (d26_l30).length c25), (92, .int .i64 ((d26_l30).length : Int)), (93, .int .i64 t93__s93_l52), (94, .bool (decide (t93__s93_l52 < ((d26_l30).length : Int))))] ⟨rfl, rfl, rfl, rfl, rfl, rfl, rfl, rfl, trivial⟩ (fun J => ?_)
    refine c_seq ?_
    refine c_cond (decide (t93__s93_l52 < ((d26_l30).length : Int))) rfl (fun hb => ?_) (fun hb => ?_)
    · replace h := ite_t hb h
      refine c_skip ?_
      refine k_then ?_
      refine c_seq ?_
      refine c_block ?_
      refine c_seq (c_plain ?_)
      refine x_pure 1 [(95, .int .i64 t93__s93_l52)] _ _ _ (by kernel_rfl) ?_
      obtain ⟨x54, hx54, h⟩ := bind_some h
      obtain ⟨g54, cs54, ha, hr54, hc54, hR⟩ := own_index (Mo := []) tsl22 ho25 hx54
      subst ha
      obtain rfl := hR
      refine x_indexAddr (xv := .slice (some ⟨g54, 0, none⟩) (d26_l30).length c25) (yv := .int .i64 t93__s93_l52) (.pointer (some ⟨g54, (Int.toNat t93__s93_l52) * (eInt .i64).n, none⟩)) rfl rfl rfl rfl hr54 ?_
      refine x_load (xv := .pointer (some ⟨g54, (Int.toNat t93__s93_l52) * (eInt .i64).n, none⟩)) (.int .i64 x54) rfl rfl rfl (reads_cell0 tcell3 hc54 (fun _ h => by cases h)) ?_
      refine x_pure 2 [(17, .int .i64 t93__s93_l52), (18, .int .i64 x54)] _ _ _ (by kernel_rfl) ?_
      refine x_end rfl (k_then ?_)
      refine c_seq (c_plain ?_)
      refine x_fieldAddr (xv := .pointer (some ⟨b9, 0, none⟩)) (.pointer (some ⟨b9, 0, none⟩)) rfl rfl rfl (reads_field tfld27_0 _ _) ?_
      refine x_load (xv := .pointer (some ⟨b9, 0, none⟩)) (.slice a0_7 (x6.1.1).length c0_7) rfl rfl rfl (reads_box tcell25 hb9 nn 0 _ rfl) ?_
      refine x_pure 1 [(100, .int .i64 t93__s93_l52)] _ _ _ (by kernel_rfl) ?_
      obtain ⟨x56, hx56, h⟩ := bind_some h
      obtain ⟨ad56, cs56, hr56, hc56, hR⟩ := reads_index (Mo := []) tsl25 hf7_1 hx56
      obtain ⟨_, _, rfl, rfl, ⟨_, _, rfl, rfl, ⟨_, _, rfl, rfl, rfl⟩⟩⟩ := hR
      refine x_indexAddr (xv := .slice a0_7 (x6.1.1).length c0_7) (yv := .int .i64 t93__s93_l52) (.pointer (some ad56)) rfl rfl rfl rfl hr56 ?_
      refine x_fieldAddr (xv := .pointer (some ad56)) (.pointer (some (Addr.add ad56 2))) rfl rfl rfl (reads_field tfld39_2 _ _) ?_
      refine x_load (xv := .pointer (some (Addr.add ad56 2))) (.int .i64 x56.2.2.1) rfl rfl rfl (reads_cell tcell3 hc56 (fun _ h => by cases h) 2 _ rfl) ?_
      refine x_pure 4 [(104, .int .i64 time_s6_l18), (105, .bool (decide (x56.2.2.1 ≤ time_s6_l18))), (106, .int .i64 x54), (107, .bool (x54 == 1))] _ _ _ (by kernel_rfl) ?_
      refine x_binop (.bool ((decide (x56.2.2.1 ≤ time_s6_l18)) != (x54 == 1))) (.bool (decide (x56.2.2.1 ≤ time_s6_l18))) (.bool (x54 == 1)) rfl rfl rfl rfl (vb_boolneq tbool4) ?_
      refine x_pure 1 [(109, .bool ((decide (x56.2.2.1 ≤ time_s6_l18)) != (x54 == 1)))] _ _ _ (by kernel_rfl) ?_
      refine x_split 109 ((decide (x56.2.2.1 ≤ time_s6_l18)) != (x54 == 1)) rfl (fun hb => ?_) (fun hb => ?_)
      · replace h := ite_t hb h
        refine x_pure 3 [(110, undef), (111, undef), (112, .bool true)] _ _ _ (by kernel_rfl) ?_
        refine x_end rfl (k_then ?_)
        refine c_norm [(4, .pointer (some ⟨b9, 0, none⟩)), (5, .pointer (some ⟨b15, 0, none⟩)), (6, .int .i64 time_s6_l18), (7, .slice a0_21 (x20.1).length c0_21), (91, .slice (some ⟨g54, 0, none⟩) (d26_l30).length c25), (92, .int .i64 ((d26_l30).length : Int)), (93, .int .i64 t93__s93_l52), (112, .bool true)] ⟨rfl, rfl, rfl, rfl, rfl, rfl, rfl, rfl, trivial⟩ (fun J => ?_)
        refine c_true rfl ?_
        refine c_seq (c_plain ?_)
        refine x_pure 1 [(2, .bool false)] _ _ _ (by kernel_rfl) ?_
        refine x_end rfl (k_then ?_)
        refine c_ret ?_
        refine k_block_ret ?_
        refine k_then_ret ?_
        have hx := some_inj h
        subst hx
        have hy := some_inj hn52
        subst hy
        replace h := h52
        refine k_then_ret ?_
        refine k_block_ret ?_
        refine k_then_ret ?_
        refine k_block_ret ?_
        refine k_then_ret ?_
        have hx := some_inj h
        subst hx
        have hy := some_inj hn18
        subst hy
        replace h := h18
        refine k_then_ret ?_
        refine k_block_ret ?_
        refine k_then_ret ?_
        refine r_ret (r_vals [.bool false] ⟨rfl, trivial⟩ ?_)
        have hx := some_inj h
        subst hx
        have hmr : MS wl52 [M] := hms.pick [some 3] _ rfl
        have hsu : ∀ x ∈ fl [M], x ∈ fl [[b9], [b15], blk (some ⟨g54, 0, none⟩), M] := pick_sub [some 3] _ rfl
        exact ⟨rfl, hev⟩
      replace h := ite_f hb h
      refine x_pure 3 [(110, .int .i64 x54), (111, .bool (decide (x54 > 1))), (112, .bool (decide (x54 > 1)))] _ _ _ (by kernel_rfl) ?_
      refine x_end rfl (k_then ?_)
      refine c_norm [(4, .pointer (some ⟨b9, 0, none⟩)), (5, .pointer (some ⟨b15, 0, none⟩)), (6, .int .i64 time_s6_l18), (7, .slice a0_21 (x20.1).length c0_21), (91, .slice (some ⟨g54, 0, none⟩) (d26_l30).length c25), (92, .int .i64 ((d26_l30).length : Int)), (93, .int .i64 t93__s93_l52), (112, .bool (decide (x54 > 1)))] ⟨rfl, rfl, rfl, rfl, rfl, rfl, rfl, rfl, trivial⟩ (fun J => ?_)
      refine c_cond (decide (x54 > 1)) rfl (fun hb => ?_) (fun hb => ?_)
      · replace h := ite_t hb h
        refine c_seq (c_plain ?_)
        refine x_pure 1 [(2, .bool false)] _ _ _ (by kernel_rfl) ?_
        refine x_end rfl (k_then ?_)
        refine c_ret ?_
        refine k_block_ret ?_
        refine k_then_ret ?_
        have hx := some_inj h
        subst hx
        have hy := some_inj hn52
        subst hy
        replace h := h52
        refine k_then_ret ?_
        refine k_block_ret ?_
        refine k_then_ret ?_
        refine k_block_ret ?_
        refine k_then_ret ?_
        have hx := some_inj h
        subst hx
        have hy := some_inj hn18
        subst hy
        replace h := h18
        refine k_then_ret ?_
        refine k_block_ret ?_
        refine k_then_ret ?_
        refine r_ret (r_vals [.bool false] ⟨rfl, trivial⟩ ?_)
        have hx := some_inj h
        subst hx
        have hmr : MS wl52 [M] := hms.pick [some 3] _ rfl
        have hsu : ∀ x ∈ fl [M], x ∈ fl [[b9], [b15], blk (some ⟨g54, 0, none⟩), M] := pick_sub [some 3] _ rfl
        exact ⟨rfl, hev⟩
      replace h := ite_f hb h
      refine c_skip ?_
      refine k_block ?_
      refine k_then ?_
      refine c_plain ?_
      refine x_pure 2 [(113, .int .i64 (IntKind.i64.wrap (t93__s93_l52 + 1))), (93, .int .i64 (IntKind.i64.wrap (t93__s93_l52 + 1)))] _ _ _ (by kernel_rfl) ?_
      refine x_end rfl ?_
      have hx := some_inj h
      subst hx
      exact k_then ⟨(m52, IntKind.i64.wrap (t93__s93_l52 + 1), (some ⟨g54, 0, none⟩)), ⟨rfl, rfl, rfl, rfl, rfl, rfl, rfl, trivial⟩, ⟨hn52, hev, hms, hfr, hf7_1, hb9, hf13_1, hb15, hf21_1, ho25⟩, Nat.lt_succ_self _⟩
    replace h := ite_f hb h
    refine c_exit ?_
    refine k_then_exit ?_
    have hx := some_inj h
    subst hx
    have hy := some_inj hn52
    subst hy
    replace h := h52
    refine k_then_exit ?_
    refine k_block_in ?_
    refine k_then ?_
    refine c_norm [(4, .pointer (some ⟨b9, 0, none⟩)), (5, .pointer (some ⟨b15, 0, none⟩)), (6, .int .i64 time_s6_l18), (7, .slice a0_21 (x20.1).length c0_21)] ⟨rfl, rfl, rfl, rfl, trivial⟩ (fun J => ?_)
    refine c_seq (c_plain ?_)
    refine x_pure 1 [(19, .int .i64 0)] _ _ _ (by kernel_rfl) ?_
    refine x_end rfl (k_then ?_)
    refine c_block ?_
    have hpk : MS wl52 [[b9], [b15], M] := hms.pick [some 0, some 1, some 3] _ rfl
    have hsu : ∀ x ∈ fl [[b9], [b15], M], x ∈ fl [[b9], [b15], blk a26_l52, M] := pick_sub [some 0, some 1, some 3] _ rfl
    replace hf7_1 := hf7_1.sub hsu
    replace hf13_1 := hf13_1.sub hsu
    replace hf21_1 := hf21_1.sub hsu
    replace hms := hpk
    replace hfr : FR w.heap.size [[b9], [b15]] := hfr.pick [some 0, some 1] _ rfl
    clear hpk hsu
    obtain ⟨d58, hd58, h58⟩ := bind_some h
    obtain ⟨m58, hd58⟩ := loop_some hd58
    refine c_loop (loop_rule hmx (σ := Nat × Int) (fun s => match s with | (_, i_s19_l58) => [(4, .pointer (some ⟨b9, 0, none⟩)), (5, .pointer (some ⟨b15, 0, none⟩)), (6, .int .i64 time_s6_l18), (7, .slice a0_21 (x20.1).length c0_21), (19, .int .i64 i_s19_l58)]) (fun s w' => match s with | (m, i_s19_l58) => loopN (law14_RollinTrack_L58 time_s6_l18 x20) m i_s19_l58 = some d58 ∧ Ev [] w w' ∧ MS w' [[b9], [b15], M] ∧ FR w.heap.size [[b9], [b15]] ∧ SlR (eProd (eInt .i64) (eProd (eInt .i64) (eProd (eInt .i64) (eInt .i64)))) w' (fl [[b9], [b15], M]) a0_7 c0_7 x6.1.1 ∧ w'.heap[b9]? = some (.cells #[.slice a0_7 (x6.1.1).length c0_7, .int .i64 x6.1.2] 27 (0, 0)) ∧ SlR (eInt .i64) w' (fl [[b9], [b15], M]) a0_13 c0_13 x12.1.2 ∧ w'.heap[b15]? = some (.cells #[.int .i64 x12.1.1, .slice a0_13 (x12.1.2).length c0_13] 30 (0, 0)) ∧ SlR (eSl (eInt .i64)) w' (fl [[b9], [b15], M]) a0_21 c0_21 x20.1) (fun s => s.1) (m58, 0) ⟨rfl, rfl, rfl, rfl, rfl, trivial⟩ ⟨hd58, hev, hms, hfr, hf7_1, hb9, hf13_1, hb15, hf21_1⟩ ?_)
    rintro ⟨m58, i_s19_l58⟩ J wl58 ⟨hn58, hev, hms, hfr, hf7_1, hb9, hf13_1, hb15, hf21_1⟩
    rcases m58 with _ | m58
    · exact (loopN_zero hn58).elim
    obtain ⟨t58, h, hn58⟩ := bind_some hn58
    refine c_seq ?_
    refine c_seq (c_plain ?_)
    refine x_pure 3 [(114, .int .i64 i_s19_l58), (115, .int .i64 time_s6_l18), (116, .bool (decide (i_s19_l58 < time_s6_l18)))] _ _ _ (by kernel_rfl) ?_
    refine x_end rfl (k_then ?_)
    refine c_norm [(4, .pointer (some ⟨b9, 0, none⟩)), (5, .pointer (some ⟨b15, 0, none⟩)), (6, .int .i64 time_s6_l18), (7, .slice a0_21 (x20.1).length c0_21), (19, .int .i64 i_s19_l58), (116, .bool (decide (i_s19_l58 < time_s6_l18)))] ⟨rfl, rfl, rfl, rfl, rfl, rfl, trivial⟩ (fun J => ?_)
    refine c_cond (decide (i_s19_l58 < time_s6_l18)) rfl (fun hb => ?_) (fun hb => ?_)
    · replace h := ite_t hb h
      refine c_skip ?_
      refine k_then ?_
      refine c_seq ?_
      refine c_block ?_
      refine c_seq (c_plain ?_)
      refine x_pure 2 [(119, .slice a0_21 (x20.1).length c0_21), (120, .int .i64 i_s19_l58)] _ _ _ (by kernel_rfl) ?_
      obtain ⟨x60, hx60, h⟩ := bind_some h
      obtain ⟨ad60, cs60, hr60, hc60, hR⟩ := reads_index (Mo := []) tsl32 hf21_1 hx60
      obtain ⟨a61, c61, rfl, hs61⟩ := hR
      refine x_indexAddr (xv := .slice a0_21 (x20.1).length c0_21) (yv := .int .i64 i_s19_l58) (.pointer (some ad60)) rfl rfl rfl rfl hr60 ?_
      refine x_load (xv := .pointer (some ad60)) (.slice a61 (x60).length c61) rfl rfl rfl (reads_cell0 tcell22 hc60 (fun _ h => by cases h)) ?_
      refine x_len (vs := [.slice a61 (x60).length c61]) (.int .i64 ((x60).length : Int)) rfl rfl rfl (reads_len tsl22 _ _ _ _ _) ?_
      refine x_pure 1 [(124, .bool (decide (((x60).length : Int) > 0)))] _ _ _ (by kernel_rfl) ?_
      refine x_end rfl (k_then ?_)
      refine c_cond (decide (((x60).length : Int) > 0)) rfl (fun hb => ?_) (fun hb => ?_)
      · replace h := ite_t hb h
        refine c_seq (c_plain ?_)
        refine x_pure 1 [(2, .bool false)] _ _ _ (by kernel_rfl) ?_
        refine x_end rfl (k_then ?_)
        refine c_ret ?_
        refine k_block_ret ?_
        refine k_then_ret ?_
        have hx := some_inj h
        subst hx
        have hy := some_inj hn58
        subst hy
        replace h := h58
        refine k_then_ret ?_
        refine k_block_ret ?_
        refine k_block_ret ?_
        refine k_then_ret ?_
        have hx := some_inj h
        subst hx
        have hy := some_inj hn18
        subst hy
        replace h := h18
        refine k_then_ret ?_
        refine k_block_ret ?_
        refine k_then_ret ?_
        refine r_ret (r_vals [.bool false] ⟨rfl, trivial⟩ ?_)
        have hx := some_inj h
        subst hx
        have hmr : MS wl58 [M] := hms.pick [some 2] _ rfl
        have hsu : ∀ x ∈ fl [M], x ∈ fl [[b9], [b15], M] := pick_sub [some 2] _ rfl
        exact ⟨rfl, hev⟩
      replace h := ite_f hb h
      refine c_skip ?_
      refine k_block ?_
      refine k_then ?_
      refine c_plain ?_
      refine x_pure 3 [(117, .int .i64 i_s19_l58), (118, .int .i64 (IntKind.i64.wrap (i_s19_l58 + 1))), (19, .int .i64 (IntKind.i64.wrap (i_s19_l58 + 1)))] _ _ _ (by kernel_rfl) ?_
      refine x_end rfl ?_
      have hx := some_inj h
      subst hx
      exact k_then ⟨(m58, IntKind.i64.wrap (i_s19_l58 + 1)), ⟨rfl, rfl, rfl, rfl, rfl, trivial⟩, ⟨hn58, hev, hms, hfr, hf7_1, hb9, hf13_1, hb15, hf21_1⟩, Nat.lt_succ_self _⟩
    replace h := ite_f hb h
    refine c_exit ?_
    refine k_then_exit ?_
    have hx := some_inj h
    subst hx
    have hy := some_inj hn58
    subst hy
    replace h := h58
    refine k_then_exit ?_
    refine k_block_in ?_
    refine k_block ?_
    refine k_then ?_
    refine c_norm [(4, .pointer (some ⟨b9, 0, none⟩)), (5, .pointer (some ⟨b15, 0, none⟩)), (6, .int .i64 time_s6_l18)] ⟨rfl, rfl, rfl, trivial⟩ (fun J => ?_)
    refine c_plain ?_
    refine x_pure 3 [(31, .int .i64 time_s6_l18), (32, .int .i64 (IntKind.i64.wrap (time_s6_l18 + 1))), (6, .int .i64 (IntKind.i64.wrap (time_s6_l18 + 1)))] _ _ _ (by kernel_rfl) ?_
    refine x_end rfl ?_
    have hx := some_inj h
    subst hx
    exact k_then ⟨(m18, IntKind.i64.wrap (time_s6_l18 + 1)), ⟨rfl, rfl, rfl, trivial⟩, ⟨hn18, hev, hms, hfr, hf7_1, hb9, hf13_1, hb15⟩, Nat.lt_succ_self _⟩
  replace h := ite_f hb h
  refine c_exit ?_
  refine k_then_exit ?_
  have hx := some_inj h
  subst hx
  have hy := some_inj hn18
  subst hy
  replace h := h18
  refine k_then_exit ?_
  refine k_block_in ?_
  refine k_then ?_
  refine c_norm [] trivial (fun J => ?_)
  refine c_seq (c_plain ?_)
  obtain ⟨x64, hx, h⟩ := bind_some h
  have hcall := law14_sane_w _ wl18 hx
  refine x_call 15 #[] #[] [] _ rfl rfl rfl rfl hcall ?_
  rintro v w65 ⟨rfl, he65⟩
  clear hcall hx
  refine ⟨.inl rfl, ?_⟩
  have hst := Stp.ext (ls := [[b9], [b15], M]) he65
  replace hb9 := he65.box hb9 nn
  replace hf7_1 := hf7_1.step hst
  replace hb15 := he65.box hb15 nn
  replace hf13_1 := hf13_1.step hst
  replace hms := hms.ev he65
  replace hev := hev.ext he65
  refine x_pure 1 [(2, .bool x64)] _ _ _ (by kernel_rfl) ?_
  refine x_end rfl (k_then ?_)
  refine c_ret ?_
  refine r_ret (r_vals [.bool x64] ⟨rfl, trivial⟩ ?_)
  have hx := some_inj h
  subst hx
  have hmr : MS w65 [M] := hms.pick [some 2] _ rfl
  have hsu : ∀ x ∈ fl [M], x ∈ fl [[b9], [b15], M] := pick_sub [some 2] _ rfl
  exact ⟨rfl, hev⟩
end Go.Proofs.Ytmjobkpgnhbcbaa
