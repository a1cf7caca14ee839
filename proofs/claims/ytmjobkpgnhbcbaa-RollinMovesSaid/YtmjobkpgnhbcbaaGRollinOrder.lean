/- Walks, printed by program: each function returns what the partial function of the same name returns. Conditions: those of each theorem. -/
import Derived.Test.YtmjobkpgnhbcbaaGT
import Derived.Test.YtmjobkpgnhbcbaaGgen
import Derived.Test.YtmjobkpgnhbcbaaGlaw14plan
import Derived.Test.YtmjobkpgnhbcbaaGlaw14sane
import Derived.Test.YtmjobkpgnhbcbaaGrollin
set_option linter.unusedVariables false
set_option linter.unusedSimpArgs false
set_option maxRecDepth 4000
namespace Go.Proofs.Ytmjobkpgnhbcbaa
open Go Go.V Go.Proofs
def law14_RollinOrder_L32 (x6 : ((List (Int × Int × Int × Int)) × Int) × Int) (x12 : (Int × (List Int)) × Int) (t31__s31_l26 : Int) (x28 : List Int) (s : Int × Int) : Option (Step (Int × Int) (Unit ⊕ Int)) :=
match s with
| (n_s8_l32, t38__s38_l32) =>
(if (decide (t38__s38_l32 < ((x28).length : Int))) = true then
((idx x28 t38__s38_l32).bind fun x34 =>
(if (decide (x34 < 0)) = true then
some (.done (.inl ()))
else
(if (decide (x34 ≥ ((x6.1.1).length : Int))) = true then
some (.done (.inl ()))
else
((idx x6.1.1 x34).bind fun x37 =>
(if (x37.1 != t31__s31_l26) = true then
some (.done (.inl ()))
else
(if (decide (t38__s38_l32 > 0)) = true then
((idx x12.1.2 x34).bind fun x39 =>
((idx x28 (IntKind.i64.wrap (t38__s38_l32 - 1))).bind fun x41 =>
((idx x12.1.2 x41).bind fun x43 =>
(if (decide (x39 < x43)) = true then
some (.done (.inl ()))
else
((idx x12.1.2 x34).bind fun x45 =>
((idx x28 (IntKind.i64.wrap (t38__s38_l32 - 1))).bind fun x47 =>
((idx x12.1.2 x47).bind fun x49 =>
(if (x45 == x49) = true then
((idx x28 (IntKind.i64.wrap (t38__s38_l32 - 1))).bind fun x51 =>
(if (decide (x34 ≤ x51)) = true then
some (.done (.inl ()))
else
some (.next (IntKind.i64.wrap (n_s8_l32 + 1), IntKind.i64.wrap (t38__s38_l32 + 1)))))
else
some (.next (IntKind.i64.wrap (n_s8_l32 + 1), IntKind.i64.wrap (t38__s38_l32 + 1)))))))))))
else
some (.next (IntKind.i64.wrap (n_s8_l32 + 1), IntKind.i64.wrap (t38__s38_l32 + 1)))))))))
else
some (.done (.inr n_s8_l32)))

def law14_RollinOrder_L26 (x6 : ((List (Int × Int × Int × Int)) × Int) × Int) (x12 : (Int × (List Int)) × Int) (x18 : ((List (List Int)) × Int) × Int) (s : Int × Int) : Option (Step (Int × Int) (Unit ⊕ Int)) :=
match s with
| (n_s8_l26, t31__s31_l26) =>
(if (decide (t31__s31_l26 < ((x18.1.1).length : Int))) = true then
((idx x18.1.1 t31__s31_l26).bind fun x28 =>
((loop (law14_RollinOrder_L32 x6 x12 t31__s31_l26 x28) (n_s8_l26, 0)).bind fun d => match d with
| (.inl _) => some (.done (.inl ()))
| (.inr n_s8_x3201) => some (.next (n_s8_x3201, IntKind.i64.wrap (t31__s31_l26 + 1)))))
else
some (.done (.inr n_s8_l26)))

def law14_RollinOrder (p0 : List Int) : Option Bool :=
((gen_New p0).bind fun x2 =>
((gen_Maker_Job x2.1 x2.2 16).bind fun x6 =>
((law14_plan x2.1 x6.2 x6.1.1 x6.1.2).bind fun x12 =>
((rollin_Run x6.1.1 x6.1.2 x12.1.1 x12.1.2).bind fun x18 =>
(if (x18.2 != 0) = true then
some false
else
((loop (law14_RollinOrder_L26 x6 x12 x18) (0, 0)).bind fun d => match d with
| (.inl _) => some false
| (.inr n_s8_x2601) => (if (n_s8_x2601 == ((x6.1.1).length : Int)) = true then
((law14_sane).bind fun x53 =>
some x53)
else
some false)))))))

theorem law14_RollinOrder_w (a_p0 : Option Addr) (c_p0 : Nat) (p0 : List Int) (r : Bool) (w : World) (M : List Nat) (hms : MS w [M]) (hs_p0 : SlR (eInt .i64) w (fl [M]) a_p0 c_p0 p0) (h : law14_RollinOrder p0 = some r) : CallVC Try.prog 3 [.slice a_p0 (p0).length c_p0] w fun v w' => v = .bool r ∧ Ev [] w w' := by
  refine calls_vc hmx Try.func3 (by kernel_rfl) rfl (rs := [.tmp 2]) rfl (by kernel_rfl) (args := [.slice a_p0 (p0).length c_p0]) rfl ?_
  have hev : Ev [] w w := Ev.refl _ _
  have hfr : FR w.heap.size [] := FR.nil _
  refine c_seq (c_plain ?_)
  refine x_pure 1 [(2, .bool false)] _ _ _ (by kernel_rfl) ?_
  refine x_end rfl (k_then ?_)
  refine c_seq (c_plain ?_)
  refine x_pure 1 [(13, .slice a_p0 (p0).length c_p0)] _ _ _ (by kernel_rfl) ?_
  obtain ⟨x2, hx, h⟩ := bind_some h
  have hpk : MS w ([] ++ [M]) := hms.pick [some 0] _ rfl
  have hsb0 : ∀ x ∈ fl ([] ++ [M]), x ∈ fl [M] := pick_sub [some 0] _ rfl
  have hsb : ∀ x ∈ fl ([] ++ [(fl [M])]), x ∈ fl [M] := fun x hx => hsb0 x (fl_unfold x hx)
  have hcall := gen_New_w a_p0 c_p0 p0 _ w (fl [M]) (MS.fold (P := []) hpk) (hs_p0.sub hsb) hx
  refine x_call 11 #[] #[] [.slice a_p0 (p0).length c_p0] _ rfl rfl rfl rfl hcall ?_
  rintro v w3 ⟨b0_3, a1_3, c1_3, rfl, he3, hmn3, hfn3, hf3_1, hf3_2⟩
  clear hcall hx
  refine ⟨.inl rfl, ?_⟩
  have hpk2 : MS w ([] ++ [M]) := hms.pick [some 0] _ rfl
  have hsb2 : ∀ x ∈ fl ([] ++ [M]), x ∈ fl [M] := pick_sub [some 0] _ rfl
  have hst0 := Stp.call (LS := [M]) (res := [[b0_3]]) (par := []) (R := [M]) he3 (fun b hb => hsb2 b (fl_left' (P := []) b hb)) hfn3 (NP.init _ _) (fun x hx => hsb2 x (fl_right' (P := []) x hx))
  have hsn : ∀ x ∈ fl [[b0_3], M], x ∈ fl ([[b0_3]] ++ ([] ++ [M])) := pick_sub [some 0, some 1] _ rfl
  have hst := hst0.res hsn
  replace hs_p0 := hs_p0.step hst
  replace hms : MS w3 [[b0_3], M] := (MS.call (P := []) (R := [M]) (res := [[b0_3]]) (par := []) hpk2 he3 hmn3 hfn3 (NP.init _ _)).pick [some 0, some 1] _ rfl
  have hfr2 : FR w.heap.size [[b0_3]] := (FR.cons (fun b hb => Nat.le_trans hev.size (hfn3.at 0 rfl b hb)) (FR.nil _))
  replace hev := hev.ext he3
  replace hfr := hfr2
  clear hfr2
  have hsp : ∀ x ∈ fl [[b0_3], M], x ∈ fl ([[b0_3]] ++ ([] ++ [(fl [M])])) := fun x hx => fl_tot (res := [[b0_3]]) (par := []) (R := [M]) x (hsn x hx)
  replace hf3_2 := hf3_2.sub hsp
  clear hpk hsb hsb0 hpk2 hsb2 hst0 hsn hst
  refine x_pure 1 [(3, .pointer (some ⟨b0_3, 0, none⟩))] _ _ _ (by kernel_rfl) ?_
  refine x_end rfl (k_then ?_)
  refine c_seq (c_plain ?_)
  refine x_pure 1 [(15, .pointer (some ⟨b0_3, 0, none⟩))] _ _ _ (by kernel_rfl) ?_
  obtain ⟨x6, hx, h⟩ := bind_some h
  have hpk : MS w3 ([[b0_3]] ++ [M]) := hms.pick [some 0, some 1] _ rfl
  have hsb0 : ∀ x ∈ fl ([[b0_3]] ++ [M]), x ∈ fl [[b0_3], M] := pick_sub [some 0, some 1] _ rfl
  have hsb : ∀ x ∈ fl ([[b0_3]] ++ [(fl [M])]), x ∈ fl [[b0_3], M] := fun x hx => hsb0 x (fl_unfold x hx)
  have hcall := gen_Maker_Job_w b0_3 a1_3 c1_3 x2.1 x2.2 16 _ w3 (fl [M]) (hpk.fold (P := [[b0_3]])) (hf3_2.sub hsb) hf3_1 hx
  refine x_call 12 #[] #[] [.pointer (some ⟨b0_3, 0, none⟩), .int .i64 16] _ rfl rfl rfl rfl hcall ?_
  rintro v w7 ⟨a0_7, c0_7, rfl, he7, hp7_0, hmn7, hfn7, hf7_1⟩
  clear hcall hx
  refine ⟨.inl rfl, ?_⟩
  have hpk2 : MS w3 ([[b0_3]] ++ [M]) := hms.pick [some 0, some 1] _ rfl
  have hsb2 : ∀ x ∈ fl ([[b0_3]] ++ [M]), x ∈ fl [[b0_3], M] := pick_sub [some 0, some 1] _ rfl
  have hst0 := Stp.call (LS := [[b0_3], M]) (res := [blk a0_7]) (par := [[b0_3]]) (R := [M]) he7 (fun b hb => hsb2 b (fl_left' (P := [[b0_3]]) b hb)) hfn7 (NP.init _ _) (fun x hx => hsb2 x (fl_right' (P := [[b0_3]]) x hx))
  have hsn : ∀ x ∈ fl [blk a0_7, [b0_3], M], x ∈ fl ([blk a0_7] ++ ([[b0_3]] ++ [M])) := pick_sub [some 0, some 1, some 2] _ rfl
  have hst := hst0.res hsn
  replace hf3_2 := hf3_2.step hst
  replace hms : MS w7 [blk a0_7, [b0_3], M] := (MS.call (P := [[b0_3]]) (R := [M]) (res := [blk a0_7]) (par := [[b0_3]]) hpk2 he7 hmn7 hfn7 (NP.init _ _)).pick [some 0, some 1, some 2] _ rfl
  have hPf : ∀ b ∈ fl [[b0_3]], w.heap.size ≤ b := FR.mem (ls := [[b0_3]]) (hfr.pick [some 0] _ rfl)
  have hfr2 : FR w.heap.size [blk a0_7, [b0_3]] := (FR.cons (fun b hb => Nat.le_trans hev.size (hfn7.at 0 rfl b hb)) (FR.cons (hfr.at 0 rfl) (FR.nil _)))
  replace hev := hev.then he7 (fun b hb => .inr (hPf b hb))
  replace hfr := hfr2
  clear hfr2
  replace hf3_1 := hp7_0
  replace hf7_1 := OwnS.plain (M' := fl [blk a0_7, [b0_3], M]) (plain_prod (plain_int _) (plain_prod (plain_int _) (plain_prod (plain_int _) (plain_int _)))) hf7_1
  clear hpk hsb hsb0 hpk2 hsb2 hst0 hsn hst
  have hpk : MS w7 [[b0_3], M] := hms.pick [some 1, some 2] _ rfl
  have hsu : ∀ x ∈ fl [[b0_3], M], x ∈ fl [blk a0_7, [b0_3], M] := pick_sub [some 1, some 2] _ rfl
  replace hf3_2 := hf3_2.sub hsu
  replace hf7_1 := hf7_1.ro hsu (pick_out hms 0 rfl [some 1, some 2] [[b0_3], M] rfl rfl)
  replace hms := hpk
  replace hfr : FR w.heap.size [[b0_3]] := hfr.pick [some 1] _ rfl
  clear hpk hsu
  refine x_alloc (z := .agg #[.slice none 0 0, .int .i64 0]) rfl rfl (by kernel_rfl) (fun b9 w9 hq9 hb9 he9 _ => ?_)
  replace hb9 : w9.heap[b9]? = some (.cells #[.slice none 0 0, .int .i64 0] 27 (0, 0)) := hb9
  refine ⟨.inl rfl, ?_⟩
  have hst := Stp.box (ls := [[b0_3], M]) he9 hq9
  replace hf3_1 := he9.box hf3_1 nn
  replace hf3_2 := hf3_2.step hst
  replace hf7_1 := hf7_1.step hst
  replace hms := hms.box he9 hq9 hb9
  replace hfr := hfr.box hev.size hq9
  replace hev := hev.ext he9
  obtain ⟨w11, hr11, hb11, he11⟩ := store_boxagg 0 [.slice a0_7 (x6.1.1).length c0_7, .int .i64 x6.1.2] #[.slice a0_7 (x6.1.1).length c0_7, .int .i64 x6.1.2] tagg27 hb9 rfl rfl rfl
  refine x_store w11 (xv := .pointer (some ⟨b9, 0, none⟩)) (yv := .agg #[.slice a0_7 (x6.1.1).length c0_7, .int .i64 x6.1.2]) rfl rfl rfl rfl hr11 ?_
  refine ⟨.inl rfl, ?_⟩
  have hst := Stp.ev' (ls := [[b9], [b0_3], M]) he11 (mem_flat 0 rfl)
  replace hf3_1 := he11.box hf3_1 (hms.apart 1 0 rfl rfl rfl _ (List.mem_singleton.2 rfl))
  replace hf3_2 := hf3_2.step hst
  replace hf7_1 := hf7_1.step hst
  replace hms := hms.ev he11
  replace hev := hev.then he11 (fun b hb => .inr (hfr.at 0 rfl b hb))
  replace hb9 := hb11
  refine x_end rfl (k_then ?_)
  refine c_seq (c_plain ?_)
  refine x_pure 1 [(17, .pointer (some ⟨b0_3, 0, none⟩))] _ _ _ (by kernel_rfl) ?_
  refine x_load (xv := .pointer (some ⟨b9, 0, none⟩)) (.agg #[.slice a0_7 (x6.1.1).length c0_7, .int .i64 x6.1.2]) rfl rfl rfl (reads_boxagg 0 [.slice a0_7 (x6.1.1).length c0_7, .int .i64 x6.1.2] tagg27 hb9 nn rfl) ?_
  obtain ⟨x12, hx, h⟩ := bind_some h
  have hpk : MS w11 ([[b0_3]] ++ [[b9], M]) := hms.pick [some 1, some 0, some 2] _ rfl
  have hsb0 : ∀ x ∈ fl ([[b0_3]] ++ [[b9], M]), x ∈ fl [[b9], [b0_3], M] := pick_sub [some 1, some 0, some 2] _ rfl
  have hsb : ∀ x ∈ fl ([[b0_3]] ++ [(fl [[b9], M])]), x ∈ fl [[b9], [b0_3], M] := fun x hx => hsb0 x (fl_unfold x hx)
  have hcall := law14_plan_w b0_3 a1_3 c1_3 x2.1 x6.2 a0_7 c0_7 x6.1.1 x6.1.2 _ w11 (fl [[b9], M]) (hpk.fold (P := [[b0_3]])) (hf3_2.sub hsb) hf3_1 (hf7_1.sub hsb) hx
  refine x_call 13 #[] #[] [.pointer (some ⟨b0_3, 0, none⟩), .agg #[.slice a0_7 (x6.1.1).length c0_7, .int .i64 x6.1.2]] _ rfl rfl rfl rfl hcall ?_
  rintro v w13 ⟨a0_13, c0_13, rfl, he13, hp13_0, hmn13, hfn13, hf13_1⟩
  clear hcall hx
  refine ⟨.inl rfl, ?_⟩
  have hpk2 : MS w11 ([[b0_3]] ++ [[b9], M]) := hms.pick [some 1, some 0, some 2] _ rfl
  have hsb2 : ∀ x ∈ fl ([[b0_3]] ++ [[b9], M]), x ∈ fl [[b9], [b0_3], M] := pick_sub [some 1, some 0, some 2] _ rfl
  have hst0 := Stp.call (LS := [[b9], [b0_3], M]) (res := [blk a0_13]) (par := [[b0_3]]) (R := [[b9], M]) he13 (fun b hb => hsb2 b (fl_left' (P := [[b0_3]]) b hb)) hfn13 (NP.init _ _) (fun x hx => hsb2 x (fl_right' (P := [[b0_3]]) x hx))
  have hsn : ∀ x ∈ fl [blk a0_13, [b9], [b0_3], M], x ∈ fl ([blk a0_13] ++ ([[b0_3]] ++ [[b9], M])) := pick_sub [some 0, some 2, some 1, some 3] _ rfl
  have hst := hst0.res hsn
  replace hf3_2 := hf3_2.step hst
  replace hf7_1 := hf7_1.step hst
  replace hb9 := he13.box hb9 ((MS.outs (P := [[b0_3]]) hpk2 0 rfl) _ (List.mem_singleton.2 rfl))
  replace hms : MS w13 [blk a0_13, [b9], [b0_3], M] := (MS.call (P := [[b0_3]]) (R := [[b9], M]) (res := [blk a0_13]) (par := [[b0_3]]) hpk2 he13 hmn13 hfn13 (NP.init _ _)).pick [some 0, some 2, some 1, some 3] _ rfl
  have hPf : ∀ b ∈ fl [[b0_3]], w.heap.size ≤ b := FR.mem (ls := [[b0_3]]) (hfr.pick [some 1] _ rfl)
  have hfr2 : FR w.heap.size [blk a0_13, [b9], [b0_3]] := (FR.cons (fun b hb => Nat.le_trans hev.size (hfn13.at 0 rfl b hb)) (FR.cons (hfr.at 0 rfl) (FR.cons (hfr.at 1 rfl) (FR.nil _))))
  replace hev := hev.then he13 (fun b hb => .inr (hPf b hb))
  replace hfr := hfr2
  clear hfr2
  replace hf3_1 := hp13_0
  replace hf13_1 := OwnS.plain (M' := fl [blk a0_13, [b9], [b0_3], M]) (plain_int _) hf13_1
  clear hpk hsb hsb0 hpk2 hsb2 hst0 hsn hst
  have hpk : MS w13 [[b9], [b0_3], M] := hms.pick [some 1, some 2, some 3] _ rfl
  have hsu : ∀ x ∈ fl [[b9], [b0_3], M], x ∈ fl [blk a0_13, [b9], [b0_3], M] := pick_sub [some 1, some 2, some 3] _ rfl
  replace hf3_2 := hf3_2.sub hsu
  replace hf7_1 := hf7_1.sub hsu
  replace hf13_1 := hf13_1.ro hsu (pick_out hms 0 rfl [some 1, some 2, some 3] [[b9], [b0_3], M] rfl rfl)
  replace hms := hpk
  replace hfr : FR w.heap.size [[b9], [b0_3]] := hfr.pick [some 1, some 2] _ rfl
  clear hpk hsu
  refine x_alloc (z := .agg #[.int .i64 0, .slice none 0 0]) rfl rfl (by kernel_rfl) (fun b15 w15 hq15 hb15 he15 _ => ?_)
  replace hb15 : w15.heap[b15]? = some (.cells #[.int .i64 0, .slice none 0 0] 30 (0, 0)) := hb15
  refine ⟨.inl rfl, ?_⟩
  have hst := Stp.box (ls := [[b9], [b0_3], M]) he15 hq15
  replace hf3_1 := he15.box hf3_1 nn
  replace hf3_2 := hf3_2.step hst
  replace hf7_1 := hf7_1.step hst
  replace hb9 := he15.box hb9 nn
  replace hf13_1 := hf13_1.step hst
  replace hms := hms.box he15 hq15 hb15
  replace hfr := hfr.box hev.size hq15
  replace hev := hev.ext he15
  obtain ⟨w17, hr17, hb17, he17⟩ := store_boxagg 0 [.int .i64 x12.1.1, .slice a0_13 (x12.1.2).length c0_13] #[.int .i64 x12.1.1, .slice a0_13 (x12.1.2).length c0_13] tagg30 hb15 rfl rfl rfl
  refine x_store w17 (xv := .pointer (some ⟨b15, 0, none⟩)) (yv := .agg #[.int .i64 x12.1.1, .slice a0_13 (x12.1.2).length c0_13]) rfl rfl rfl rfl hr17 ?_
  refine ⟨.inl rfl, ?_⟩
  have hst := Stp.ev' (ls := [[b15], [b9], [b0_3], M]) he17 (mem_flat 0 rfl)
  replace hf3_1 := he17.box hf3_1 (hms.apart 2 0 rfl rfl rfl _ (List.mem_singleton.2 rfl))
  replace hf3_2 := hf3_2.step hst
  replace hf7_1 := hf7_1.step hst
  replace hb9 := he17.box hb9 (hms.apart 1 0 rfl rfl rfl _ (List.mem_singleton.2 rfl))
  replace hf13_1 := hf13_1.step hst
  replace hms := hms.ev he17
  replace hev := hev.then he17 (fun b hb => .inr (hfr.at 0 rfl b hb))
  replace hb15 := hb17
  refine x_end rfl (k_then ?_)
  refine c_seq (c_plain ?_)
  refine x_load (xv := .pointer (some ⟨b9, 0, none⟩)) (.agg #[.slice a0_7 (x6.1.1).length c0_7, .int .i64 x6.1.2]) rfl rfl rfl (reads_boxagg 0 [.slice a0_7 (x6.1.1).length c0_7, .int .i64 x6.1.2] tagg27 hb9 nn rfl) ?_
  refine x_load (xv := .pointer (some ⟨b15, 0, none⟩)) (.agg #[.int .i64 x12.1.1, .slice a0_13 (x12.1.2).length c0_13]) rfl rfl rfl (reads_boxagg 0 [.int .i64 x12.1.1, .slice a0_13 (x12.1.2).length c0_13] tagg30 hb15 nn rfl) ?_
  obtain ⟨x18, hx, h⟩ := bind_some h
  have hpk : MS w17 ([] ++ [[b15], [b9], [b0_3], M]) := hms.pick [some 0, some 1, some 2, some 3] _ rfl
  have hsb0 : ∀ x ∈ fl ([] ++ [[b15], [b9], [b0_3], M]), x ∈ fl [[b15], [b9], [b0_3], M] := pick_sub [some 0, some 1, some 2, some 3] _ rfl
  have hsb : ∀ x ∈ fl ([] ++ [(fl [[b15], [b9], [b0_3], M])]), x ∈ fl [[b15], [b9], [b0_3], M] := fun x hx => hsb0 x (fl_unfold x hx)
  have hcall := rollin_Run_w a0_7 c0_7 x6.1.1 x6.1.2 x12.1.1 a0_13 c0_13 x12.1.2 _ w17 (fl [[b15], [b9], [b0_3], M]) (MS.fold (P := []) hpk) (hf7_1.sub hsb) (hf13_1.sub hsb) hx
  refine x_call 14 #[] #[] [.agg #[.slice a0_7 (x6.1.1).length c0_7, .int .i64 x6.1.2], .agg #[.int .i64 x12.1.1, .slice a0_13 (x12.1.2).length c0_13]] _ rfl rfl rfl rfl hcall ?_
  rintro v w19 ⟨a0_19, c0_19, B2_19, rfl, he19, hmn19, hfn19, hf19_1⟩
  clear hcall hx
  refine ⟨.inl rfl, ?_⟩
  have hpk2 : MS w17 ([] ++ [[b15], [b9], [b0_3], M]) := hms.pick [some 0, some 1, some 2, some 3] _ rfl
  have hsb2 : ∀ x ∈ fl ([] ++ [[b15], [b9], [b0_3], M]), x ∈ fl [[b15], [b9], [b0_3], M] := pick_sub [some 0, some 1, some 2, some 3] _ rfl
  have hst0 := Stp.call (LS := [[b15], [b9], [b0_3], M]) (res := [B2_19]) (par := []) (R := [[b15], [b9], [b0_3], M]) he19 (fun b hb => hsb2 b (fl_left' (P := []) b hb)) hfn19 (NP.init _ _) (fun x hx => hsb2 x (fl_right' (P := []) x hx))
  have hsn : ∀ x ∈ fl [B2_19, [b15], [b9], [b0_3], M], x ∈ fl ([B2_19] ++ ([] ++ [[b15], [b9], [b0_3], M])) := pick_sub [some 0, some 1, some 2, some 3, some 4] _ rfl
  have hst := hst0.res hsn
  replace hf3_1 := he19.box hf3_1 ((MS.outs (P := []) hpk2 2 rfl) _ (List.mem_singleton.2 rfl))
  replace hf3_2 := hf3_2.step hst
  replace hf7_1 := hf7_1.step hst
  replace hb9 := he19.box hb9 ((MS.outs (P := []) hpk2 1 rfl) _ (List.mem_singleton.2 rfl))
  replace hf13_1 := hf13_1.step hst
  replace hb15 := he19.box hb15 ((MS.outs (P := []) hpk2 0 rfl) _ (List.mem_singleton.2 rfl))
  replace hms : MS w19 [B2_19, [b15], [b9], [b0_3], M] := (MS.call (P := []) (R := [[b15], [b9], [b0_3], M]) (res := [B2_19]) (par := []) hpk2 he19 hmn19 hfn19 (NP.init _ _)).pick [some 0, some 1, some 2, some 3, some 4] _ rfl
  have hfr2 : FR w.heap.size [B2_19, [b15], [b9], [b0_3]] := (FR.cons (fun b hb => Nat.le_trans hev.size (hfn19.at 0 rfl b hb)) (FR.cons (hfr.at 0 rfl) (FR.cons (hfr.at 1 rfl) (FR.cons (hfr.at 2 rfl) (FR.nil _)))))
  replace hev := hev.ext he19
  replace hfr := hfr2
  clear hfr2
  clear hpk hsb hsb0 hpk2 hsb2 hst0 hsn hst
  have hpk : MS w19 [[b15], [b9], [b0_3], M] := hms.pick [some 1, some 2, some 3, some 4] _ rfl
  have hsu : ∀ x ∈ fl [[b15], [b9], [b0_3], M], x ∈ fl [B2_19, [b15], [b9], [b0_3], M] := pick_sub [some 1, some 2, some 3, some 4] _ rfl
  replace hf3_2 := hf3_2.sub hsu
  replace hf7_1 := hf7_1.sub hsu
  replace hf13_1 := hf13_1.sub hsu
  replace hf19_1 := hf19_1.ro (plain_int _) (pick_out hms 0 rfl [some 1, some 2, some 3, some 4] [[b15], [b9], [b0_3], M] rfl rfl)
  replace hms := hpk
  replace hfr : FR w.heap.size [[b15], [b9], [b0_3]] := hfr.pick [some 1, some 2, some 3] _ rfl
  clear hpk hsu
  refine x_pure 3 [(20, .tuple #[.agg #[.slice a0_19 (x18.1.1).length c0_19, .int .i64 x18.1.2], .int .i64 x18.2]), (24, .agg #[.slice a0_19 (x18.1.1).length c0_19, .int .i64 x18.1.2]), (25, .int .i64 x18.2)] _ _ _ (by kernel_rfl) ?_
  refine x_alloc (z := .agg #[.slice none 0 0, .int .i64 0]) rfl rfl (by kernel_rfl) (fun b21 w21 hq21 hb21 he21 _ => ?_)
  replace hb21 : w21.heap[b21]? = some (.cells #[.slice none 0 0, .int .i64 0] 34 (0, 0)) := hb21
  refine ⟨.inl rfl, ?_⟩
  have hst := Stp.box (ls := [[b15], [b9], [b0_3], M]) he21 hq21
  replace hf3_1 := he21.box hf3_1 nn
  replace hf3_2 := hf3_2.step hst
  replace hf7_1 := hf7_1.step hst
  replace hb9 := he21.box hb9 nn
  replace hf13_1 := hf13_1.step hst
  replace hb15 := he21.box hb15 nn
  replace hf19_1 := hf19_1.step hst
  replace hms := hms.box he21 hq21 hb21
  replace hfr := hfr.box hev.size hq21
  replace hev := hev.ext he21
  obtain ⟨w23, hr23, hb23, he23⟩ := store_boxagg 0 [.slice a0_19 (x18.1.1).length c0_19, .int .i64 x18.1.2] #[.slice a0_19 (x18.1.1).length c0_19, .int .i64 x18.1.2] tagg34 hb21 rfl rfl rfl
  refine x_store w23 (xv := .pointer (some ⟨b21, 0, none⟩)) (yv := .agg #[.slice a0_19 (x18.1.1).length c0_19, .int .i64 x18.1.2]) rfl rfl rfl rfl hr23 ?_
  refine ⟨.inl rfl, ?_⟩
  have hst := Stp.ev' (ls := [[b21], [b15], [b9], [b0_3], M]) he23 (mem_flat 0 rfl)
  replace hf3_1 := he23.box hf3_1 (hms.apart 3 0 rfl rfl rfl _ (List.mem_singleton.2 rfl))
  replace hf3_2 := hf3_2.step hst
  replace hf7_1 := hf7_1.step hst
  replace hb9 := he23.box hb9 (hms.apart 2 0 rfl rfl rfl _ (List.mem_singleton.2 rfl))
  replace hf13_1 := hf13_1.step hst
  replace hb15 := he23.box hb15 (hms.apart 1 0 rfl rfl rfl _ (List.mem_singleton.2 rfl))
  replace hf19_1 := hf19_1.step hst
  replace hms := hms.ev he23
  replace hev := hev.then he23 (fun b hb => .inr (hfr.at 0 rfl b hb))
  replace hb21 := hb23
  refine x_pure 1 [(7, .int .i64 x18.2)] _ _ _ (by kernel_rfl) ?_
  refine x_end rfl (k_then ?_)
  refine c_norm [(4, .pointer (some ⟨b9, 0, none⟩)), (5, .pointer (some ⟨b15, 0, none⟩)), (6, .pointer (some ⟨b21, 0, none⟩)), (7, .int .i64 x18.2)] ⟨rfl, rfl, rfl, rfl, trivial⟩ (fun J => ?_)
  refine c_seq ?_
  refine c_seq (c_plain ?_)
  refine x_pure 2 [(26, .int .i64 x18.2), (27, .bool (x18.2 != 0))] _ _ _ (by kernel_rfl) ?_
  refine x_end rfl (k_then ?_)
  refine c_cond (x18.2 != 0) rfl (fun hb => ?_) (fun hb => ?_)
  · replace h := ite_t hb h
    refine c_seq (c_plain ?_)
    refine x_pure 1 [(2, .bool false)] _ _ _ (by kernel_rfl) ?_
    refine x_end rfl (k_then ?_)
    refine c_ret ?_
    refine k_then_ret ?_
    refine r_ret (r_vals [.bool false] ⟨rfl, trivial⟩ ?_)
    have hx := some_inj h
    subst hx
    have hmr : MS w23 [M] := hms.pick [some 4] _ rfl
    have hsu : ∀ x ∈ fl [M], x ∈ fl [[b21], [b15], [b9], [b0_3], M] := pick_sub [some 4] _ rfl
    exact ⟨rfl, hev⟩
  replace h := ite_f hb h
  refine c_skip ?_
  refine k_then ?_
  refine c_seq (c_plain ?_)
  refine x_pure 1 [(8, .int .i64 0)] _ _ _ (by kernel_rfl) ?_
  refine x_end rfl (k_then ?_)
  refine c_seq ?_
  refine c_seq (c_plain ?_)
  refine x_fieldAddr (xv := .pointer (some ⟨b21, 0, none⟩)) (.pointer (some ⟨b21, 0, none⟩)) rfl rfl rfl (reads_field tfld34_0 _ _) ?_
  refine x_load (xv := .pointer (some ⟨b21, 0, none⟩)) (.slice a0_19 (x18.1.1).length c0_19) rfl rfl rfl (reads_box tcell32 hb21 nn 0 _ rfl) ?_
  refine x_len (vs := [.slice a0_19 (x18.1.1).length c0_19]) (.int .i64 ((x18.1.1).length : Int)) rfl rfl rfl (reads_len tsl32 _ _ _ _ _) ?_
  refine x_pure 1 [(31, .int .i64 0)] _ _ _ (by kernel_rfl) ?_
  refine x_end rfl (k_then ?_)
  refine c_block ?_
  have hpk : MS w23 [[b9], [b15], M] := hms.pick [some 2, some 1, some 4] _ rfl
  have hsu : ∀ x ∈ fl [[b9], [b15], M], x ∈ fl [[b21], [b15], [b9], [b0_3], M] := pick_sub [some 2, some 1, some 4] _ rfl
  replace hf7_1 := hf7_1.sub hsu
  replace hf13_1 := hf13_1.sub hsu
  replace hf19_1 := hf19_1.sub hsu
  replace hms := hpk
  replace hfr : FR w.heap.size [[b9], [b15]] := hfr.pick [some 2, some 1] _ rfl
  clear hpk hsu
  obtain ⟨d26, hd26, h26⟩ := bind_some h
  obtain ⟨m26, hd26⟩ := loop_some hd26
  refine c_loop (loop_rule hmx (σ := Nat × Int × Int) (fun s => match s with | (_, n_s8_l26, t31__s31_l26) => [(4, .pointer (some ⟨b9, 0, none⟩)), (5, .pointer (some ⟨b15, 0, none⟩)), (8, .int .i64 n_s8_l26), (29, .slice a0_19 (x18.1.1).length c0_19), (30, .int .i64 ((x18.1.1).length : Int)), (31, .int .i64 t31__s31_l26)]) (fun s w' => match s with | (m, n_s8_l26, t31__s31_l26) => loopN (law14_RollinOrder_L26 x6 x12 x18) m (n_s8_l26, t31__s31_l26) = some d26 ∧ Ev [] w w' ∧ MS w' [[b9], [b15], M] ∧ FR w.heap.size [[b9], [b15]] ∧ SlR (eProd (eInt .i64) (eProd (eInt .i64) (eProd (eInt .i64) (eInt .i64)))) w' (fl [[b9], [b15], M]) a0_7 c0_7 x6.1.1 ∧ w'.heap[b9]? = some (.cells #[.slice a0_7 (x6.1.1).length c0_7, .int .i64 x6.1.2] 27 (0, 0)) ∧ SlR (eInt .i64) w' (fl [[b9], [b15], M]) a0_13 c0_13 x12.1.2 ∧ w'.heap[b15]? = some (.cells #[.int .i64 x12.1.1, .slice a0_13 (x12.1.2).length c0_13] 30 (0, 0)) ∧ SlR (eSl (eInt .i64)) w' (fl [[b9], [b15], M]) a0_19 c0_19 x18.1.1) (fun s => s.1) (m26, 0, 0) ⟨rfl, rfl, rfl, rfl, rfl, rfl, trivial⟩ ⟨hd26, hev, hms, hfr, hf7_1, hb9, hf13_1, hb15, hf19_1⟩ ?_)
  rintro ⟨m26, n_s8_l26, t31__s31_l26⟩ J wl26 ⟨hn26, hev, hms, hfr, hf7_1, hb9, hf13_1, hb15, hf19_1⟩
  rcases m26 with _ | m26
  · exact (loopN_zero hn26).elim
  obtain ⟨t26, h, hn26⟩ := bind_some hn26
  refine c_seq (c_plain ?_)
  refine x_pure 1 [(32, .bool (decide (t31__s31_l26 < ((x18.1.1).length : Int))))] _ _ _ (by kernel_rfl) ?_
  refine x_end rfl (k_then ?_)
  refine c_norm [(4, .pointer (some ⟨b9, 0, none⟩)), (5, .pointer (some ⟨b15, 0, none⟩)), (8, .int .i64 n_s8_l26), (29, .slice a0_19 (x18.1.1).length c0_19), (30, .int .i64 ((x18.1.1).length : Int)), (31, .int .i64 t31__s31_l26), (32, .bool (decide (t31__s31_l26 < ((x18.1.1).length : Int))))] ⟨rfl, rfl, rfl, rfl, rfl, rfl, rfl, trivial⟩ (fun J => ?_)
  refine c_seq ?_
  refine c_cond (decide (t31__s31_l26 < ((x18.1.1).length : Int))) rfl (fun hb => ?_) (fun hb => ?_)
  · replace h := ite_t hb h
    refine c_skip ?_
    refine k_then ?_
    refine c_seq ?_
    refine c_block ?_
    refine c_seq (c_plain ?_)
    refine x_pure 1 [(33, .int .i64 t31__s31_l26)] _ _ _ (by kernel_rfl) ?_
    obtain ⟨x28, hx28, h⟩ := bind_some h
    obtain ⟨ad28, cs28, hr28, hc28, hR⟩ := reads_index (Mo := []) tsl32 hf19_1 hx28
    obtain ⟨a29, c29, rfl, hs29⟩ := hR
    refine x_indexAddr (xv := .slice a0_19 (x18.1.1).length c0_19) (yv := .int .i64 t31__s31_l26) (.pointer (some ad28)) rfl rfl rfl rfl hr28 ?_
    refine x_load (xv := .pointer (some ad28)) (.slice a29 (x28).length c29) rfl rfl rfl (reads_cell0 tcell22 hc28 (fun _ h => by cases h)) ?_
    refine x_pure 2 [(9, .int .i64 t31__s31_l26), (10, .slice a29 (x28).length c29)] _ _ _ (by kernel_rfl) ?_
    refine x_end rfl (k_then ?_)
    refine c_seq (c_plain ?_)
    refine x_pure 1 [(36, .slice a29 (x28).length c29)] _ _ _ (by kernel_rfl) ?_
    refine x_len (vs := [.slice a29 (x28).length c29]) (.int .i64 ((x28).length : Int)) rfl rfl rfl (reads_len tsl22 _ _ _ _ _) ?_
    refine x_pure 1 [(38, .int .i64 0)] _ _ _ (by kernel_rfl) ?_
    refine x_end rfl (k_then ?_)
    refine c_block ?_
    obtain ⟨d32, hd32, h32⟩ := bind_some h
    obtain ⟨m32, hd32⟩ := loop_some hd32
    refine c_loop (loop_rule hmx (σ := Nat × Int × Int) (fun s => match s with | (_, n_s8_l32, t38__s38_l32) => [(4, .pointer (some ⟨b9, 0, none⟩)), (5, .pointer (some ⟨b15, 0, none⟩)), (8, .int .i64 n_s8_l32), (9, .int .i64 t31__s31_l26), (10, .slice a29 (x28).length c29), (29, .slice a0_19 (x18.1.1).length c0_19), (30, .int .i64 ((x18.1.1).length : Int)), (31, .int .i64 t31__s31_l26), (36, .slice a29 (x28).length c29), (37, .int .i64 ((x28).length : Int)), (38, .int .i64 t38__s38_l32)]) (fun s w' => match s with | (m, n_s8_l32, t38__s38_l32) => loopN (law14_RollinOrder_L32 x6 x12 t31__s31_l26 x28) m (n_s8_l32, t38__s38_l32) = some d32 ∧ Ev [] w w' ∧ MS w' [[b9], [b15], M] ∧ FR w.heap.size [[b9], [b15]] ∧ SlR (eProd (eInt .i64) (eProd (eInt .i64) (eProd (eInt .i64) (eInt .i64)))) w' (fl [[b9], [b15], M]) a0_7 c0_7 x6.1.1 ∧ w'.heap[b9]? = some (.cells #[.slice a0_7 (x6.1.1).length c0_7, .int .i64 x6.1.2] 27 (0, 0)) ∧ SlR (eInt .i64) w' (fl [[b9], [b15], M]) a0_13 c0_13 x12.1.2 ∧ w'.heap[b15]? = some (.cells #[.int .i64 x12.1.1, .slice a0_13 (x12.1.2).length c0_13] 30 (0, 0)) ∧ SlR (eInt .i64) w' (fl [[b9], [b15], M]) a29 c29 x28 ∧ SlR (eSl (eInt .i64)) w' (fl [[b9], [b15], M]) a0_19 c0_19 x18.1.1) (fun s => s.1) (m32, n_s8_l26, 0) ⟨rfl, rfl, rfl, rfl, rfl, rfl, rfl, rfl, rfl, rfl, rfl, trivial⟩ ⟨hd32, hev, hms, hfr, hf7_1, hb9, hf13_1, hb15, hs29, hf19_1⟩ ?_)
    rintro ⟨m32, n_s8_l32, t38__s38_l32⟩ J wl32 ⟨hn32, hev, hms, hfr, hf7_1, hb9, hf13_1, hb15, hs29, hf19_1⟩
    rcases m32 with _ | m32
    · exact (loopN_zero hn32).elim
    obtain ⟨t32, h, hn32⟩ := bind_some hn32
    refine c_seq (c_plain ?_)
    refine x_pure 1 [(39, .bool (decide (t38__s38_l32 < ((x28).length : Int))))] _ _ _ (by kernel_rfl) ?_
    refine x_end rfl (k_then ?_)
    refine c_norm [(4, .pointer (some ⟨b9, 0, none⟩)), (5, .pointer (some ⟨b15, 0, none⟩)), (8, .int .i64 n_s8_l32), (9, .int .i64 t31__s31_l26), (10, .slice a29 (x28).length c29), (29, .slice a0_19 (x18.1.1).length c0_19), (30, .int .i64 ((x18.1.1).length : Int)), (31, .int .i64 t31__s31_l26), (36, .slice a29 (x28).length c29), (37, .int .i64 ((x28).length : Int)), (38, .int .i64 t38__s38_l32), (39, .bool (decide (t38__s38_l32 < ((x28).length : Int))))] ⟨rfl, rfl, rfl, rfl, rfl, rfl, rfl, rfl, rfl, rfl, rfl, rfl, trivial⟩ (fun J => ?_)
    refine c_seq ?_
    refine c_cond (decide (t38__s38_l32 < ((x28).length : Int))) rfl (fun hb => ?_) (fun hb => ?_)
    · replace h := ite_t hb h
      refine c_skip ?_
      refine k_then ?_
      refine c_seq ?_
      refine c_block ?_
      refine c_seq (c_plain ?_)
      refine x_pure 1 [(40, .int .i64 t38__s38_l32)] _ _ _ (by kernel_rfl) ?_
      obtain ⟨x34, hx34, h⟩ := bind_some h
      obtain ⟨ad34, cs34, hr34, hc34, hR⟩ := reads_index (Mo := []) tsl22 hs29 hx34
      obtain rfl := hR
      refine x_indexAddr (xv := .slice a29 (x28).length c29) (yv := .int .i64 t38__s38_l32) (.pointer (some ad34)) rfl rfl rfl rfl hr34 ?_
      refine x_load (xv := .pointer (some ad34)) (.int .i64 x34) rfl rfl rfl (reads_cell0 tcell3 hc34 (fun _ h => by cases h)) ?_
      refine x_pure 2 [(11, .int .i64 t38__s38_l32), (12, .int .i64 x34)] _ _ _ (by kernel_rfl) ?_
      refine x_end rfl (k_then ?_)
      refine c_seq ?_
      refine c_seq (c_plain ?_)
      refine x_pure 3 [(43, .int .i64 x34), (44, .bool (decide (x34 < 0))), (45, .bool (decide (x34 < 0)))] _ _ _ (by kernel_rfl) ?_
      refine x_split 45 (decide (x34 < 0)) rfl (fun hb => ?_) (fun hb => ?_)
      · replace h := ite_t hb h
        refine x_pure 16 [(46, undef), (47, undef), (48, undef), (49, undef), (50, undef), (51, .bool true), (52, .bool true), (53, undef), (54, undef), (55, undef), (56, undef), (57, undef), (58, undef), (59, undef), (60, undef), (61, .bool true)] _ _ _ (by kernel_rfl) ?_
        refine x_end rfl (k_then ?_)
        refine c_norm [(4, .pointer (some ⟨b9, 0, none⟩)), (5, .pointer (some ⟨b15, 0, none⟩)), (8, .int .i64 n_s8_l32), (9, .int .i64 t31__s31_l26), (10, .slice a29 (x28).length c29), (11, .int .i64 t38__s38_l32), (12, .int .i64 x34), (29, .slice a0_19 (x18.1.1).length c0_19), (30, .int .i64 ((x18.1.1).length : Int)), (31, .int .i64 t31__s31_l26), (36, .slice a29 (x28).length c29), (37, .int .i64 ((x28).length : Int)), (38, .int .i64 t38__s38_l32), (61, .bool true)] ⟨rfl, rfl, rfl, rfl, rfl, rfl, rfl, rfl, rfl, rfl, rfl, rfl, rfl, rfl, trivial⟩ (fun J => ?_)
        refine c_true rfl ?_
        refine c_seq (c_plain ?_)
        refine x_pure 1 [(2, .bool false)] _ _ _ (by kernel_rfl) ?_
        refine x_end rfl (k_then ?_)
        refine c_ret ?_
        refine k_then_ret ?_
        refine k_block_ret ?_
        refine k_then_ret ?_
        have hx := some_inj h
        subst hx
        have hy := some_inj hn32
        subst hy
        replace h := h32
        refine k_then_ret ?_
        refine k_block_ret ?_
        refine k_block_ret ?_
        refine k_then_ret ?_
        have hx := some_inj h
        subst hx
        have hy := some_inj hn26
        subst hy
        replace h := h26
        refine k_then_ret ?_
        refine k_block_ret ?_
        refine k_then_ret ?_
        refine r_ret (r_vals [.bool false] ⟨rfl, trivial⟩ ?_)
        have hx := some_inj h
        subst hx
        have hmr : MS wl32 [M] := hms.pick [some 2] _ rfl
        have hsu : ∀ x ∈ fl [M], x ∈ fl [[b9], [b15], M] := pick_sub [some 2] _ rfl
        exact ⟨rfl, hev⟩
      replace h := ite_f hb h
      refine x_pure 1 [(46, .int .i64 x34)] _ _ _ (by kernel_rfl) ?_
      refine x_fieldAddr (xv := .pointer (some ⟨b9, 0, none⟩)) (.pointer (some ⟨b9, 0, none⟩)) rfl rfl rfl (reads_field tfld27_0 _ _) ?_
      refine x_load (xv := .pointer (some ⟨b9, 0, none⟩)) (.slice a0_7 (x6.1.1).length c0_7) rfl rfl rfl (reads_box tcell25 hb9 nn 0 _ rfl) ?_
      refine x_len (vs := [.slice a0_7 (x6.1.1).length c0_7]) (.int .i64 ((x6.1.1).length : Int)) rfl rfl rfl (reads_len tsl25 _ _ _ _ _) ?_
      refine x_pure 3 [(50, .bool (decide (x34 ≥ ((x6.1.1).length : Int)))), (51, .bool (decide (x34 ≥ ((x6.1.1).length : Int)))), (52, .bool (decide (x34 ≥ ((x6.1.1).length : Int))))] _ _ _ (by kernel_rfl) ?_
      refine x_split 52 (decide (x34 ≥ ((x6.1.1).length : Int))) rfl (fun hb => ?_) (fun hb => ?_)
      · replace h := ite_t hb h
        refine x_pure 9 [(53, undef), (54, undef), (55, undef), (56, undef), (57, undef), (58, undef), (59, undef), (60, undef), (61, .bool true)] _ _ _ (by kernel_rfl) ?_
        refine x_end rfl (k_then ?_)
        refine c_norm [(4, .pointer (some ⟨b9, 0, none⟩)), (5, .pointer (some ⟨b15, 0, none⟩)), (8, .int .i64 n_s8_l32), (9, .int .i64 t31__s31_l26), (10, .slice a29 (x28).length c29), (11, .int .i64 t38__s38_l32), (12, .int .i64 x34), (29, .slice a0_19 (x18.1.1).length c0_19), (30, .int .i64 ((x18.1.1).length : Int)), (31, .int .i64 t31__s31_l26), (36, .slice a29 (x28).length c29), (37, .int .i64 ((x28).length : Int)), (38, .int .i64 t38__s38_l32), (61, .bool true)] ⟨rfl, rfl, rfl, rfl, rfl, rfl, rfl, rfl, rfl, rfl, rfl, rfl, rfl, rfl, trivial⟩ (fun J => ?_)
        refine c_true rfl ?_
        refine c_seq (c_plain ?_)
        refine x_pure 1 [(2, .bool false)] _ _ _ (by kernel_rfl) ?_
        refine x_end rfl (k_then ?_)
        refine c_ret ?_
        refine k_then_ret ?_
        refine k_block_ret ?_
        refine k_then_ret ?_
        have hx := some_inj h
        subst hx
        have hy := some_inj hn32
        subst hy
        replace h := h32
        refine k_then_ret ?_
        refine k_block_ret ?_
        refine k_block_ret ?_
        refine k_then_ret ?_
        have hx := some_inj h
        subst hx
        have hy := some_inj hn26
        subst hy
        replace h := h26
        refine k_then_ret ?_
        refine k_block_ret ?_
        refine k_then_ret ?_
        refine r_ret (r_vals [.bool false] ⟨rfl, trivial⟩ ?_)
        have hx := some_inj h
        subst hx
        have hmr : MS wl32 [M] := hms.pick [some 2] _ rfl
        have hsu : ∀ x ∈ fl [M], x ∈ fl [[b9], [b15], M] := pick_sub [some 2] _ rfl
        exact ⟨rfl, hev⟩
      replace h := ite_f hb h
      refine x_fieldAddr (xv := .pointer (some ⟨b9, 0, none⟩)) (.pointer (some ⟨b9, 0, none⟩)) rfl rfl rfl (reads_field tfld27_0 _ _) ?_
      refine x_load (xv := .pointer (some ⟨b9, 0, none⟩)) (.slice a0_7 (x6.1.1).length c0_7) rfl rfl rfl (reads_box tcell25 hb9 nn 0 _ rfl) ?_
      refine x_pure 1 [(55, .int .i64 x34)] _ _ _ (by kernel_rfl) ?_
      obtain ⟨x37, hx37, h⟩ := bind_some h
      obtain ⟨ad37, cs37, hr37, hc37, hR⟩ := reads_index (Mo := []) tsl25 hf7_1 hx37
      obtain ⟨_, _, rfl, rfl, ⟨_, _, rfl, rfl, ⟨_, _, rfl, rfl, rfl⟩⟩⟩ := hR
      refine x_indexAddr (xv := .slice a0_7 (x6.1.1).length c0_7) (yv := .int .i64 x34) (.pointer (some ad37)) rfl rfl rfl rfl hr37 ?_
      refine x_fieldAddr (xv := .pointer (some ad37)) (.pointer (some (Addr.add ad37 0))) rfl rfl rfl (reads_field tfld39_0 _ _) ?_
      refine x_load (xv := .pointer (some (Addr.add ad37 0))) (.int .i64 x37.1) rfl rfl rfl (reads_cell tcell3 hc37 (fun _ h => by cases h) 0 _ rfl) ?_
      refine x_pure 3 [(59, .int .i64 t31__s31_l26), (60, .bool (x37.1 != t31__s31_l26)), (61, .bool (x37.1 != t31__s31_l26))] _ _ _ (by kernel_rfl) ?_
      refine x_end rfl (k_then ?_)
      refine c_norm [(4, .pointer (some ⟨b9, 0, none⟩)), (5, .pointer (some ⟨b15, 0, none⟩)), (8, .int .i64 n_s8_l32), (9, .int .i64 t31__s31_l26), (10, .slice a29 (x28).length c29), (11, .int .i64 t38__s38_l32), (12, .int .i64 x34), (29, .slice a0_19 (x18.1.1).length c0_19), (30, .int .i64 ((x18.1.1).length : Int)), (31, .int .i64 t31__s31_l26), (36, .slice a29 (x28).length c29), (37, .int .i64 ((x28).length : Int)), (38, .int .i64 t38__s38_l32), (61, .bool (x37.1 != t31__s31_l26))] ⟨rfl, rfl, rfl, rfl, rfl, rfl, rfl, rfl, rfl, rfl, rfl, rfl, rfl, rfl, trivial⟩ (fun J => ?_)
      refine c_cond (x37.1 != t31__s31_l26) rfl (fun hb => ?_) (fun hb => ?_)
      · replace h := ite_t hb h
        refine c_seq (c_plain ?_)
        refine x_pure 1 [(2, .bool false)] _ _ _ (by kernel_rfl) ?_
        refine x_end rfl (k_then ?_)
        refine c_ret ?_
        refine k_then_ret ?_
        refine k_block_ret ?_
        refine k_then_ret ?_
        have hx := some_inj h
        subst hx
        have hy := some_inj hn32
        subst hy
        replace h := h32
        refine k_then_ret ?_
        refine k_block_ret ?_
        refine k_block_ret ?_
        refine k_then_ret ?_
        have hx := some_inj h
        subst hx
        have hy := some_inj hn26
        subst hy
        replace h := h26
        refine k_then_ret ?_
        refine k_block_ret ?_
        refine k_then_ret ?_
        refine r_ret (r_vals [.bool false] ⟨rfl, trivial⟩ ?_)
        have hx := some_inj h
        subst hx
        have hmr : MS wl32 [M] := hms.pick [some 2] _ rfl
        have hsu : ∀ x ∈ fl [M], x ∈ fl [[b9], [b15], M] := pick_sub [some 2] _ rfl
        exact ⟨rfl, hev⟩
      replace h := ite_f hb h
      refine c_skip ?_
      refine k_then ?_
      refine c_seq ?_
      refine c_seq ?_
      refine c_drawn [] [(0, false), (1, false), (2, false), (3, false), (4, false), (5, false), (6, false), (7, false), (8, false), (9, false), (10, false), (11, false), (12, false), (13, false), (14, false), (15, false), (16, false), (17, false), (18, false), (19, false), (20, false), (21, false), (22, false), (23, false), (24, false), (25, false), (26, false), (27, false), (28, false), (29, false), (30, false), (31, false), (32, false), (33, false), (34, false), (35, false), (36, false), (37, false), (38, false), (39, false), (40, false), (41, false), (42, false), (43, false), (44, false)] _ (by kernel_rfl) rfl ?_
      have hst := Stp.ext (ls := [[b9], [b15], M]) (Ev.drew wl32)
      replace hb9 := (Ev.drew wl32).box hb9 nn
      replace hf7_1 := hf7_1.step hst
      replace hb15 := (Ev.drew wl32).box hb15 nn
      replace hf13_1 := hf13_1.step hst
      replace hs29 := hs29.step hst
      replace hf19_1 := hf19_1.step hst
      replace hms := hms.ev (Ev.drew wl32)
      replace hev := hev.ext (Ev.drew wl32)
      refine x_pure 3 [(62, .int .i64 t38__s38_l32), (63, .bool (decide (t38__s38_l32 > 0))), (64, .bool (decide (t38__s38_l32 > 0)))] _ _ _ (by kernel_rfl) ?_
      refine x_split 64 (decide (t38__s38_l32 > 0)) rfl (fun hb => ?_) (fun hb => ?_)
      · replace h := ite_t hb h
        refine x_fieldAddr (xv := .pointer (some ⟨b15, 0, none⟩)) (.pointer (some ⟨b15, 1, none⟩)) rfl rfl rfl (reads_field tfld30_1 _ _) ?_
        refine x_load (xv := .pointer (some ⟨b15, 1, none⟩)) (.slice a0_13 (x12.1.2).length c0_13) rfl rfl rfl (reads_box tcell22 hb15 nn 1 _ rfl) ?_
        refine x_pure 1 [(67, .int .i64 x34)] _ _ _ (by kernel_rfl) ?_
        obtain ⟨x39, hx39, h⟩ := bind_some h
        obtain ⟨ad39, cs39, hr39, hc39, hR⟩ := reads_index (Mo := []) tsl22 hf13_1 hx39
        obtain rfl := hR
        refine x_indexAddr (xv := .slice a0_13 (x12.1.2).length c0_13) (yv := .int .i64 x34) (.pointer (some ad39)) rfl rfl rfl rfl hr39 ?_
        refine x_load (xv := .pointer (some ad39)) (.int .i64 x39) rfl rfl rfl (reads_cell0 tcell3 hc39 (fun _ h => by cases h)) ?_
        refine x_fieldAddr (xv := .pointer (some ⟨b15, 0, none⟩)) (.pointer (some ⟨b15, 1, none⟩)) rfl rfl rfl (reads_field tfld30_1 _ _) ?_
        refine x_load (xv := .pointer (some ⟨b15, 1, none⟩)) (.slice a0_13 (x12.1.2).length c0_13) rfl rfl rfl (reads_box tcell22 hb15 nn 1 _ rfl) ?_
        refine x_pure 3 [(72, .slice a29 (x28).length c29), (73, .int .i64 t38__s38_l32), (74, .int .i64 (IntKind.i64.wrap (t38__s38_l32 - 1)))] _ _ _ (by kernel_rfl) ?_
        obtain ⟨x41, hx41, h⟩ := bind_some h
        obtain ⟨ad41, cs41, hr41, hc41, hR⟩ := reads_index (Mo := []) tsl22 hs29 hx41
        obtain rfl := hR
        refine x_indexAddr (xv := .slice a29 (x28).length c29) (yv := .int .i64 (IntKind.i64.wrap (t38__s38_l32 - 1))) (.pointer (some ad41)) rfl rfl rfl rfl hr41 ?_
        refine x_load (xv := .pointer (some ad41)) (.int .i64 x41) rfl rfl rfl (reads_cell0 tcell3 hc41 (fun _ h => by cases h)) ?_
        obtain ⟨x43, hx43, h⟩ := bind_some h
        obtain ⟨ad43, cs43, hr43, hc43, hR⟩ := reads_index (Mo := []) tsl22 hf13_1 hx43
        obtain rfl := hR
        refine x_indexAddr (xv := .slice a0_13 (x12.1.2).length c0_13) (yv := .int .i64 x41) (.pointer (some ad43)) rfl rfl rfl rfl hr43 ?_
        refine x_load (xv := .pointer (some ad43)) (.int .i64 x43) rfl rfl rfl (reads_cell0 tcell3 hc43 (fun _ h => by cases h)) ?_
        refine x_pure 2 [(79, .bool (decide (x39 < x43))), (80, .bool (decide (x39 < x43)))] _ _ _ (by kernel_rfl) ?_
        refine x_split 80 (decide (x39 < x43)) rfl (fun hb => ?_) (fun hb => ?_)
        · replace h := ite_t hb h
          refine x_pure 26 [(81, undef), (82, undef), (83, undef), (84, undef), (85, undef), (86, undef), (87, undef), (88, undef), (89, undef), (90, undef), (91, undef), (92, undef), (93, undef), (94, undef), (95, undef), (96, undef), (97, undef), (98, undef), (99, undef), (100, undef), (101, undef), (102, undef), (103, undef), (104, undef), (105, .bool true), (106, .bool true)] _ _ _ (by kernel_rfl) ?_
          refine x_end rfl (k_then ?_)
          refine c_norm [(4, .pointer (some ⟨b9, 0, none⟩)), (5, .pointer (some ⟨b15, 0, none⟩)), (8, .int .i64 n_s8_l32), (9, .int .i64 t31__s31_l26), (10, .slice a29 (x28).length c29), (29, .slice a0_19 (x18.1.1).length c0_19), (30, .int .i64 ((x18.1.1).length : Int)), (31, .int .i64 t31__s31_l26), (36, .slice a29 (x28).length c29), (37, .int .i64 ((x28).length : Int)), (38, .int .i64 t38__s38_l32), (106, .bool true)] ⟨rfl, rfl, rfl, rfl, rfl, rfl, rfl, rfl, rfl, rfl, rfl, rfl, trivial⟩ (fun J => ?_)
          refine c_true rfl ?_
          refine c_seq (c_plain ?_)
          refine x_pure 1 [(2, .bool false)] _ _ _ (by kernel_rfl) ?_
          refine x_end rfl (k_then ?_)
          refine c_ret ?_
          refine k_then_ret ?_
          refine k_block_ret ?_
          refine k_then_ret ?_
          have hx := some_inj h
          subst hx
          have hy := some_inj hn32
          subst hy
          replace h := h32
          refine k_then_ret ?_
          refine k_block_ret ?_
          refine k_block_ret ?_
          refine k_then_ret ?_
          have hx := some_inj h
          subst hx
          have hy := some_inj hn26
          subst hy
          replace h := h26
          refine k_then_ret ?_
          refine k_block_ret ?_
          refine k_then_ret ?_
          refine r_ret (r_vals [.bool false] ⟨rfl, trivial⟩ ?_)
          have hx := some_inj h
          subst hx
          have hmr : MS (wl32).drew [M] := hms.pick [some 2] _ rfl
          have hsu : ∀ x ∈ fl [M], x ∈ fl [[b9], [b15], M] := pick_sub [some 2] _ rfl
          exact ⟨rfl, hev⟩
        replace h := ite_f hb h
        refine x_fieldAddr (xv := .pointer (some ⟨b15, 0, none⟩)) (.pointer (some ⟨b15, 1, none⟩)) rfl rfl rfl (reads_field tfld30_1 _ _) ?_
        refine x_load (xv := .pointer (some ⟨b15, 1, none⟩)) (.slice a0_13 (x12.1.2).length c0_13) rfl rfl rfl (reads_box tcell22 hb15 nn 1 _ rfl) ?_
        refine x_pure 1 [(83, .int .i64 x34)] _ _ _ (by kernel_rfl) ?_
        obtain ⟨x45, hx45, h⟩ := bind_some h
        obtain ⟨ad45, cs45, hr45, hc45, hR⟩ := reads_index (Mo := []) tsl22 hf13_1 hx45
        obtain rfl := hR
        refine x_indexAddr (xv := .slice a0_13 (x12.1.2).length c0_13) (yv := .int .i64 x34) (.pointer (some ad45)) rfl rfl rfl rfl hr45 ?_
        refine x_load (xv := .pointer (some ad45)) (.int .i64 x45) rfl rfl rfl (reads_cell0 tcell3 hc45 (fun _ h => by cases h)) ?_
        refine x_fieldAddr (xv := .pointer (some ⟨b15, 0, none⟩)) (.pointer (some ⟨b15, 1, none⟩)) rfl rfl rfl (reads_field tfld30_1 _ _) ?_
        refine x_load (xv := .pointer (some ⟨b15, 1, none⟩)) (.slice a0_13 (x12.1.2).length c0_13) rfl rfl rfl (reads_box tcell22 hb15 nn 1 _ rfl) ?_
        refine x_pure 3 [(88, .slice a29 (x28).length c29), (89, .int .i64 t38__s38_l32), (90, .int .i64 (IntKind.i64.wrap (t38__s38_l32 - 1)))] _ _ _ (by kernel_rfl) ?_
        obtain ⟨x47, hx47, h⟩ := bind_some h
        obtain ⟨ad47, cs47, hr47, hc47, hR⟩ := reads_index (Mo := []) tsl22 hs29 hx47
        obtain rfl := hR
        refine x_indexAddr (xv := .slice a29 (x28).length c29) (yv := .int .i64 (IntKind.i64.wrap (t38__s38_l32 - 1))) (.pointer (some ad47)) rfl rfl rfl rfl hr47 ?_
        refine x_load (xv := .pointer (some ad47)) (.int .i64 x47) rfl rfl rfl (reads_cell0 tcell3 hc47 (fun _ h => by cases h)) ?_
        obtain ⟨x49, hx49, h⟩ := bind_some h
        obtain ⟨ad49, cs49, hr49, hc49, hR⟩ := reads_index (Mo := []) tsl22 hf13_1 hx49
        obtain rfl := hR
        refine x_indexAddr (xv := .slice a0_13 (x12.1.2).length c0_13) (yv := .int .i64 x47) (.pointer (some ad49)) rfl rfl rfl rfl hr49 ?_
        refine x_load (xv := .pointer (some ad49)) (.int .i64 x49) rfl rfl rfl (reads_cell0 tcell3 hc49 (fun _ h => by cases h)) ?_
        refine x_pure 2 [(95, .bool (x45 == x49)), (96, .bool (x45 == x49))] _ _ _ (by kernel_rfl) ?_
        refine x_split 96 (x45 == x49) rfl (fun hb => ?_) (fun hb => ?_)
        · replace h := ite_t hb h
          refine x_pure 4 [(97, .int .i64 x34), (98, .slice a29 (x28).length c29), (99, .int .i64 t38__s38_l32), (100, .int .i64 (IntKind.i64.wrap (t38__s38_l32 - 1)))] _ _ _ (by kernel_rfl) ?_
          obtain ⟨x51, hx51, h⟩ := bind_some h
          obtain ⟨ad51, cs51, hr51, hc51, hR⟩ := reads_index (Mo := []) tsl22 hs29 hx51
          obtain rfl := hR
          refine x_indexAddr (xv := .slice a29 (x28).length c29) (yv := .int .i64 (IntKind.i64.wrap (t38__s38_l32 - 1))) (.pointer (some ad51)) rfl rfl rfl rfl hr51 ?_
          refine x_load (xv := .pointer (some ad51)) (.int .i64 x51) rfl rfl rfl (reads_cell0 tcell3 hc51 (fun _ h => by cases h)) ?_
          refine x_pure 4 [(103, .bool (decide (x34 ≤ x51))), (104, .bool (decide (x34 ≤ x51))), (105, .bool (decide (x34 ≤ x51))), (106, .bool (decide (x34 ≤ x51)))] _ _ _ (by kernel_rfl) ?_
          refine x_end rfl (k_then ?_)
          refine c_norm [(4, .pointer (some ⟨b9, 0, none⟩)), (5, .pointer (some ⟨b15, 0, none⟩)), (8, .int .i64 n_s8_l32), (9, .int .i64 t31__s31_l26), (10, .slice a29 (x28).length c29), (29, .slice a0_19 (x18.1.1).length c0_19), (30, .int .i64 ((x18.1.1).length : Int)), (31, .int .i64 t31__s31_l26), (36, .slice a29 (x28).length c29), (37, .int .i64 ((x28).length : Int)), (38, .int .i64 t38__s38_l32), (106, .bool (decide (x34 ≤ x51)))] ⟨rfl, rfl, rfl, rfl, rfl, rfl, rfl, rfl, rfl, rfl, rfl, rfl, trivial⟩ (fun J => ?_)
          refine c_cond (decide (x34 ≤ x51)) rfl (fun hb => ?_) (fun hb => ?_)
          · replace h := ite_t hb h
            refine c_seq (c_plain ?_)
            refine x_pure 1 [(2, .bool false)] _ _ _ (by kernel_rfl) ?_
            refine x_end rfl (k_then ?_)
            refine c_ret ?_
            refine k_then_ret ?_
            refine k_block_ret ?_
            refine k_then_ret ?_
            have hx := some_inj h
            subst hx
            have hy := some_inj hn32
            subst hy
            replace h := h32
            refine k_then_ret ?_
            refine k_block_ret ?_
            refine k_block_ret ?_
            refine k_then_ret ?_
            have hx := some_inj h
            subst hx
            have hy := some_inj hn26
            subst hy
            replace h := h26
            refine k_then_ret ?_
            refine k_block_ret ?_
            refine k_then_ret ?_
            refine r_ret (r_vals [.bool false] ⟨rfl, trivial⟩ ?_)
            have hx := some_inj h
            subst hx
            have hmr : MS (wl32).drew [M] := hms.pick [some 2] _ rfl
            have hsu : ∀ x ∈ fl [M], x ∈ fl [[b9], [b15], M] := pick_sub [some 2] _ rfl
            exact ⟨rfl, hev⟩
          replace h := ite_f hb h
          refine c_skip ?_
          refine k_then ?_
          refine c_plain ?_
          refine x_pure 3 [(107, .int .i64 n_s8_l32), (108, .int .i64 (IntKind.i64.wrap (n_s8_l32 + 1))), (8, .int .i64 (IntKind.i64.wrap (n_s8_l32 + 1)))] _ _ _ (by kernel_rfl) ?_
          refine x_end rfl ?_
          refine k_block ?_
          refine k_then ?_
          refine c_plain ?_
          refine x_pure 2 [(109, .int .i64 (IntKind.i64.wrap (t38__s38_l32 + 1))), (38, .int .i64 (IntKind.i64.wrap (t38__s38_l32 + 1)))] _ _ _ (by kernel_rfl) ?_
          refine x_end rfl ?_
          have hx := some_inj h
          subst hx
          exact k_then ⟨(m32, IntKind.i64.wrap (n_s8_l32 + 1), IntKind.i64.wrap (t38__s38_l32 + 1)), ⟨rfl, rfl, rfl, rfl, rfl, rfl, rfl, rfl, rfl, rfl, rfl, trivial⟩, ⟨hn32, hev, hms, hfr, hf7_1, hb9, hf13_1, hb15, hs29, hf19_1⟩, Nat.lt_succ_self _⟩
        replace h := ite_f hb h
        refine x_pure 10 [(97, undef), (98, undef), (99, undef), (100, undef), (101, undef), (102, undef), (103, undef), (104, .bool false), (105, .bool false), (106, .bool false)] _ _ _ (by kernel_rfl) ?_
        refine x_end rfl (k_then ?_)
        refine c_norm [(4, .pointer (some ⟨b9, 0, none⟩)), (5, .pointer (some ⟨b15, 0, none⟩)), (8, .int .i64 n_s8_l32), (9, .int .i64 t31__s31_l26), (10, .slice a29 (x28).length c29), (29, .slice a0_19 (x18.1.1).length c0_19), (30, .int .i64 ((x18.1.1).length : Int)), (31, .int .i64 t31__s31_l26), (36, .slice a29 (x28).length c29), (37, .int .i64 ((x28).length : Int)), (38, .int .i64 t38__s38_l32), (106, .bool false)] ⟨rfl, rfl, rfl, rfl, rfl, rfl, rfl, rfl, rfl, rfl, rfl, rfl, trivial⟩ (fun J => ?_)
        refine c_false rfl ?_
        refine c_skip ?_
        refine k_then ?_
        refine c_plain ?_
        refine x_pure 3 [(107, .int .i64 n_s8_l32), (108, .int .i64 (IntKind.i64.wrap (n_s8_l32 + 1))), (8, .int .i64 (IntKind.i64.wrap (n_s8_l32 + 1)))] _ _ _ (by kernel_rfl) ?_
        refine x_end rfl ?_
        refine k_block ?_
        refine k_then ?_
        refine c_plain ?_
        refine x_pure 2 [(109, .int .i64 (IntKind.i64.wrap (t38__s38_l32 + 1))), (38, .int .i64 (IntKind.i64.wrap (t38__s38_l32 + 1)))] _ _ _ (by kernel_rfl) ?_
        refine x_end rfl ?_
        have hx := some_inj h
        subst hx
        exact k_then ⟨(m32, IntKind.i64.wrap (n_s8_l32 + 1), IntKind.i64.wrap (t38__s38_l32 + 1)), ⟨rfl, rfl, rfl, rfl, rfl, rfl, rfl, rfl, rfl, rfl, rfl, trivial⟩, ⟨hn32, hev, hms, hfr, hf7_1, hb9, hf13_1, hb15, hs29, hf19_1⟩, Nat.lt_succ_self _⟩
      replace h := ite_f hb h
      refine x_pure 42 [(65, undef), (66, undef), (67, undef), (68, undef), (69, undef), (70, undef), (71, undef), (72, undef), (73, undef), (74, undef), (75, undef), (76, undef), (77, undef), (78, undef), (79, undef), (80, undef), (81, undef), (82, undef), (83, undef), (84, undef), (85, undef), (86, undef), (87, undef), (88, undef), (89, undef), (90, undef), (91, undef), (92, undef), (93, undef), (94, undef), (95, undef), (96, undef), (97, undef), (98, undef), (99, undef), (100, undef), (101, undef), (102, undef), (103, undef), (104, undef), (105, undef), (106, .bool false)] _ _ _ (by kernel_rfl) ?_
      refine x_end rfl (k_then ?_)
      refine c_norm [(4, .pointer (some ⟨b9, 0, none⟩)), (5, .pointer (some ⟨b15, 0, none⟩)), (8, .int .i64 n_s8_l32), (9, .int .i64 t31__s31_l26), (10, .slice a29 (x28).length c29), (29, .slice a0_19 (x18.1.1).length c0_19), (30, .int .i64 ((x18.1.1).length : Int)), (31, .int .i64 t31__s31_l26), (36, .slice a29 (x28).length c29), (37, .int .i64 ((x28).length : Int)), (38, .int .i64 t38__s38_l32), (106, .bool false)] ⟨rfl, rfl, rfl, rfl, rfl, rfl, rfl, rfl, rfl, rfl, rfl, rfl, trivial⟩ (fun J => ?_)
      refine c_false rfl ?_
      refine c_skip ?_
      refine k_then ?_
      refine c_plain ?_
      refine x_pure 3 [(107, .int .i64 n_s8_l32), (108, .int .i64 (IntKind.i64.wrap (n_s8_l32 + 1))), (8, .int .i64 (IntKind.i64.wrap (n_s8_l32 + 1)))] _ _ _ (by kernel_rfl) ?_
      refine x_end rfl ?_
      refine k_block ?_
      refine k_then ?_
      refine c_plain ?_
      refine x_pure 2 [(109, .int .i64 (IntKind.i64.wrap (t38__s38_l32 + 1))), (38, .int .i64 (IntKind.i64.wrap (t38__s38_l32 + 1)))] _ _ _ (by kernel_rfl) ?_
      refine x_end rfl ?_
      have hx := some_inj h
      subst hx
      exact k_then ⟨(m32, IntKind.i64.wrap (n_s8_l32 + 1), IntKind.i64.wrap (t38__s38_l32 + 1)), ⟨rfl, rfl, rfl, rfl, rfl, rfl, rfl, rfl, rfl, rfl, rfl, trivial⟩, ⟨hn32, hev, hms, hfr, hf7_1, hb9, hf13_1, hb15, hs29, hf19_1⟩, Nat.lt_succ_self _⟩
    replace h := ite_f hb h
    refine c_exit ?_
    refine k_then_exit ?_
    have hx := some_inj h
    subst hx
    have hy := some_inj hn32
    subst hy
    replace h := h32
    refine k_then_exit ?_
    refine k_block_in ?_
    refine k_block ?_
    refine k_then ?_
    refine c_norm [(4, .pointer (some ⟨b9, 0, none⟩)), (5, .pointer (some ⟨b15, 0, none⟩)), (8, .int .i64 n_s8_l32), (29, .slice a0_19 (x18.1.1).length c0_19), (30, .int .i64 ((x18.1.1).length : Int)), (31, .int .i64 t31__s31_l26)] ⟨rfl, rfl, rfl, rfl, rfl, rfl, trivial⟩ (fun J => ?_)
    refine c_plain ?_
    refine x_pure 2 [(110, .int .i64 (IntKind.i64.wrap (t31__s31_l26 + 1))), (31, .int .i64 (IntKind.i64.wrap (t31__s31_l26 + 1)))] _ _ _ (by kernel_rfl) ?_
    refine x_end rfl ?_
    have hx := some_inj h
    subst hx
    exact k_then ⟨(m26, n_s8_l32, IntKind.i64.wrap (t31__s31_l26 + 1)), ⟨rfl, rfl, rfl, rfl, rfl, rfl, trivial⟩, ⟨hn26, hev, hms, hfr, hf7_1, hb9, hf13_1, hb15, hf19_1⟩, Nat.lt_succ_self _⟩
  replace h := ite_f hb h
  refine c_exit ?_
  refine k_then_exit ?_
  have hx := some_inj h
  subst hx
  have hy := some_inj hn26
  subst hy
  replace h := h26
  refine k_then_exit ?_
  refine k_block_in ?_
  refine k_then ?_
  refine c_norm [(4, .pointer (some ⟨b9, 0, none⟩)), (8, .int .i64 n_s8_l26)] ⟨rfl, rfl, trivial⟩ (fun J => ?_)
  refine c_seq (c_plain ?_)
  refine x_pure 1 [(111, .int .i64 n_s8_l26)] _ _ _ (by kernel_rfl) ?_
  refine x_fieldAddr (xv := .pointer (some ⟨b9, 0, none⟩)) (.pointer (some ⟨b9, 0, none⟩)) rfl rfl rfl (reads_field tfld27_0 _ _) ?_
  refine x_load (xv := .pointer (some ⟨b9, 0, none⟩)) (.slice a0_7 (x6.1.1).length c0_7) rfl rfl rfl (reads_box tcell25 hb9 nn 0 _ rfl) ?_
  refine x_len (vs := [.slice a0_7 (x6.1.1).length c0_7]) (.int .i64 ((x6.1.1).length : Int)) rfl rfl rfl (reads_len tsl25 _ _ _ _ _) ?_
  refine x_pure 2 [(115, .bool (n_s8_l26 == ((x6.1.1).length : Int))), (116, .bool (n_s8_l26 == ((x6.1.1).length : Int)))] _ _ _ (by kernel_rfl) ?_
  refine x_split 116 (n_s8_l26 == ((x6.1.1).length : Int)) rfl (fun hb => ?_) (fun hb => ?_)
  · replace h := ite_t hb h
    obtain ⟨x53, hx, h⟩ := bind_some h
    have hcall := law14_sane_w _ wl26 hx
    refine x_call 15 #[] #[] [] _ rfl rfl rfl rfl hcall ?_
    rintro v w54 ⟨rfl, he54⟩
    clear hcall hx
    refine ⟨.inl rfl, ?_⟩
    have hst := Stp.ext (ls := [[b9], [b15], M]) he54
    replace hb9 := he54.box hb9 nn
    replace hf7_1 := hf7_1.step hst
    replace hb15 := he54.box hb15 nn
    replace hf13_1 := hf13_1.step hst
    replace hms := hms.ev he54
    replace hev := hev.ext he54
    refine x_pure 2 [(118, .bool x53), (2, .bool x53)] _ _ _ (by kernel_rfl) ?_
    refine x_end rfl (k_then ?_)
    refine c_ret ?_
    refine r_ret (r_vals [.bool x53] ⟨rfl, trivial⟩ ?_)
    have hx := some_inj h
    subst hx
    have hmr : MS w54 [M] := hms.pick [some 2] _ rfl
    have hsu : ∀ x ∈ fl [M], x ∈ fl [[b9], [b15], M] := pick_sub [some 2] _ rfl
    exact ⟨rfl, hev⟩
  replace h := ite_f hb h
  refine x_pure 3 [(117, undef), (118, .bool false), (2, .bool false)] _ _ _ (by kernel_rfl) ?_
  refine x_end rfl (k_then ?_)
  refine c_ret ?_
  refine r_ret (r_vals [.bool false] ⟨rfl, trivial⟩ ?_)
  have hx := some_inj h
  subst hx
  have hmr : MS wl26 [M] := hms.pick [some 2] _ rfl
  have hsu : ∀ x ∈ fl [M], x ∈ fl [[b9], [b15], M] := pick_sub [some 2] _ rfl
  exact ⟨rfl, hev⟩
end Go.Proofs.Ytmjobkpgnhbcbaa
