/- Walks, printed by program: each function returns what the partial function of the same name returns. Conditions: those of each theorem. -/
import Derived.Test.YtmjobkpgnhbcbaaGT
import Derived.Test.YtmjobkpgnhbcbaaGgen
import Derived.Test.YtmjobkpgnhbcbaaGjob
import Derived.Test.YtmjobkpgnhbcbaaGlaw14plan
import Derived.Test.YtmjobkpgnhbcbaaGlaw14sane
import Derived.Test.YtmjobkpgnhbcbaaGleastcode
import Derived.Test.YtmjobkpgnhbcbaaGr11
import Derived.Test.YtmjobkpgnhbcbaaGr12
import Derived.Test.YtmjobkpgnhbcbaaGrollin
set_option linter.unusedVariables false
set_option linter.unusedSimpArgs false
set_option maxRecDepth 4000
namespace Go.Proofs.Ytmjobkpgnhbcbaa
open Go Go.V Go.Proofs
def law14_RollinSorts_L55 (x6 : ((List (Int × Int × Int × Int)) × Int) × Int) (d21_j18 : List Int) (t114__s114_l53 : Int) (s : Bool × Int) : Option (Step (Bool × Int) Bool) :=
match s with
| (want_s15_l55, t120__s120_l55) =>
(if (decide (t120__s120_l55 < ((d21_j18).length : Int))) = true then
(if want_s15_l55 = true then
((r11_Kind x6.1.1 x6.1.2 t114__s114_l53 t120__s120_l55).bind fun x57 =>
(if (x57 == 0) = true then
some (.next (true, IntKind.i64.wrap (t120__s120_l55 + 1)))
else
((idx d21_j18 t114__s114_l53).bind fun x59 =>
((idx d21_j18 t120__s120_l55).bind fun x61 =>
((r11_Strict x6.1.1 x6.1.2 t114__s114_l53 t120__s120_l55).bind fun x63 =>
some (.next (decide ((IntKind.i64.wrap (x59 + x63)) ≤ x61), IntKind.i64.wrap (t120__s120_l55 + 1))))))))
else
some (.next (false, IntKind.i64.wrap (t120__s120_l55 + 1))))
else
some (.done want_s15_l55))

def law14_RollinSorts_L53 (x6 : ((List (Int × Int × Int × Int)) × Int) × Int) (d21_j18 : List Int) (s : Bool × Int) : Option (Step (Bool × Int) Bool) :=
match s with
| (want_s15_l53, t114__s114_l53) =>
(if (decide (t114__s114_l53 < ((d21_j18).length : Int))) = true then
((loop (law14_RollinSorts_L55 x6 d21_j18 t114__s114_l53) (want_s15_l53, 0)).bind fun d => match d with
| want_s15_x55 => some (.next (want_s15_x55, IntKind.i64.wrap (t114__s114_l53 + 1))))
else
some (.done want_s15_l53))

def law14_RollinSorts_J18 (x6 : ((List (Int × Int × Int × Int)) × Int) × Int) (e16_j18_0 : Int) (d21_j18 : List Int) : Option Bool :=
((rollin_Run x6.1.1 x6.1.2 e16_j18_0 d21_j18).bind fun x43 =>
((job_Sorted x6.1.1 x6.1.2 x43.1.1).bind fun x49 =>
(if (x43.2 != 0) = true then
some false
else
(if (x49.2 != 0) = true then
some false
else
((loop (law14_RollinSorts_L53 x6 d21_j18) (true, 0)).bind fun d => match d with
| want_s15_x53 => (if (x49.1 == want_s15_x53) = true then
((law14_sane).bind fun x65 =>
some x65)
else
some false))))))

def law14_RollinSorts_J29 (x2 : ((List Int) × Int)) (x6 : ((List (Int × Int × Int × Int)) × Int) × Int) (x19 : (Int × (List Int)) × Int) (e4_j29_1 : Int) (t55__s55_j29 : Bool) : Option Bool :=
(if t55__s55_j29 = true then
((gen_Maker_Next x2.1 e4_j29_1 ((x19.1.2).length : Int)).bind fun x32 =>
(if 0 ≤ x19.1.1 then
((idx x6.1.1 x32.1).bind fun x34 =>
((gen_Maker_Next x2.1 x32.2 (IntKind.i64.wrap (1 * 2 ^ (min (Int.toNat (x19.1.1)) IntKind.i64.bits)))).bind fun x36 =>
((r12_Next x36.1 x34.2.2.1 x6.1.2).bind fun x38 =>
(if (x38.2 == 0) = true then
(if 0 ≤ x19.1.1 then
(if (decide (x38.1 < (IntKind.i64.wrap (1 * 2 ^ (min (Int.toNat (x19.1.1)) IntKind.i64.bits))))) = true then
((idx x19.1.2 x32.1).bind fun x40 =>
law14_RollinSorts_J18 x6 x19.1.1 (x19.1.2.set (Int.toNat x32.1) x38.1))
else
law14_RollinSorts_J18 x6 x19.1.1 x19.1.2)
else none)
else
law14_RollinSorts_J18 x6 x19.1.1 x19.1.2))))
else none))
else
law14_RollinSorts_J18 x6 x19.1.1 x19.1.2)

def law14_RollinSorts_J25 (x2 : ((List Int) × Int)) (x6 : ((List (Int × Int × Int × Int)) × Int) × Int) (x12 : (Int × (List Int)) × Int) (x19 : (Int × (List Int)) × Int) (e4_j25_1 : Int) (t45__s45_j25 : Bool) : Option Bool :=
(if t45__s45_j25 = true then
(if (decide (((x19.1.2).length : Int) > 0)) = true then
((gen_Maker_Next x2.1 e4_j25_1 2).bind fun x30 =>
law14_RollinSorts_J29 x2 x6 x19 x30.2 (x30.1 == 0))
else
law14_RollinSorts_J29 x2 x6 x19 e4_j25_1 false)
else
law14_RollinSorts_J18 x6 x12.1.1 x12.1.2)

def law14_RollinSorts (p0 : List Int) : Option Bool :=
((gen_New p0).bind fun x2 =>
((gen_Maker_Job x2.1 x2.2 10).bind fun x6 =>
((law14_plan x2.1 x6.2 x6.1.1 x6.1.2).bind fun x12 =>
((leastcode_Least x6.1.1 x6.1.2).bind fun x19 =>
(if (x19.2 == 0) = true then
((gen_Maker_Next x2.1 x12.2 2).bind fun x26 =>
(if (x26.1 == 0) = true then
law14_RollinSorts_J25 x2 x6 x12 x19 x26.2 (((x19.1.2).length : Int) == ((x6.1.1).length : Int))
else
law14_RollinSorts_J25 x2 x6 x12 x19 x26.2 false))
else
law14_RollinSorts_J25 x2 x6 x12 x19 x12.2 false)))))

theorem law14_RollinSorts_w (a_p0 : Option Addr) (c_p0 : Nat) (p0 : List Int) (r : Bool) (w : World) (M : List Nat) (hms : MS w [M]) (hs_p0 : SlR (eInt .i64) w (fl [M]) a_p0 c_p0 p0) (h : law14_RollinSorts p0 = some r) : CallVC Try.prog 10 [.slice a_p0 (p0).length c_p0] w fun v w' => v = .bool r ∧ Ev [] w w' := by
  refine calls_vc hmx Try.func10 (by kernel_rfl) rfl (rs := [.tmp 2]) rfl (by kernel_rfl) (args := [.slice a_p0 (p0).length c_p0]) rfl ?_
  have hev : Ev [] w w := Ev.refl _ _
  have hfr : FR w.heap.size [] := FR.nil _
  refine c_seq (c_plain ?_)
  refine x_pure 1 [(2, .bool false)] _ _ _ (by kernel_rfl) ?_
  refine x_end rfl (k_then ?_)
  refine c_seq (c_plain ?_)
  refine x_pure 1 [(18, .slice a_p0 (p0).length c_p0)] _ _ _ (by kernel_rfl) ?_
  obtain ⟨x2, hx, h⟩ := bind_some h
  have hpk : MS w ([] ++ [M]) := hms.pick [some 0] _ rfl
  have hsb0 : ∀ x ∈ fl ([] ++ [M]), x ∈ fl [M] := pick_sub [some 0] _ rfl
  have hsb : ∀ x ∈ fl ([] ++ [(fl [M])]), x ∈ fl [M] := fun x hx => hsb0 x (fl_unfold x hx)
  have hcall := gen_New_w a_p0 c_p0 p0 _ w (fl [M]) (MS.fold (P := []) hpk) (hs_p0.sub hsb) hx
  refine x_call 11 #[] #[] [.slice a_p0 (p0).length c_p0] _ rfl rfl rfl rfl hcall ?_
  rintro v w3 ⟨b0_3, a1_3, c1_3, rfl, he3, hmn3, hfn3, hf3_1, hf3_2⟩
  clear hcall hx
  refine ⟨.inl rfl, ?_⟩
  have hpk2 : MS w ([] ++ [M]) := hms.pick [some 0] _ rfl
  have hsb2 : ∀ x ∈ fl ([] ++ [M]), x ∈ fl [M] := pick_sub [some 0] _ rfl
  have hst0 := Stp.call (LS := [M]) (res := [[b0_3]]) (par := []) (R := [M]) he3 (fun b hb => hsb2 b (fl_left' (P := []) b hb)) hfn3 (NP.init _ _) (fun x hx => hsb2 x (fl_right' (P := []) x hx))
  have hsn : ∀ x ∈ fl [[b0_3], M], x ∈ fl ([[b0_3]] ++ ([] ++ [M])) := pick_sub [some 0, some 1] _ rfl
  have hst := hst0.res hsn
  replace hs_p0 := hs_p0.step hst
  replace hms : MS w3 [[b0_3], M] := (MS.call (P := []) (R := [M]) (res := [[b0_3]]) (par := []) hpk2 he3 hmn3 hfn3 (NP.init _ _)).pick [some 0, some 1] _ rfl
  have hfr2 : FR w.heap.size [[b0_3]] := (FR.cons (fun b hb => Nat.le_trans hev.size (hfn3.at 0 rfl b hb)) (FR.nil _))
  replace hev := hev.ext he3
  replace hfr := hfr2
  clear hfr2
  have hsp : ∀ x ∈ fl [[b0_3], M], x ∈ fl ([[b0_3]] ++ ([] ++ [(fl [M])])) := fun x hx => fl_tot (res := [[b0_3]]) (par := []) (R := [M]) x (hsn x hx)
  replace hf3_2 := hf3_2.sub hsp
  clear hpk hsb hsb0 hpk2 hsb2 hst0 hsn hst
  refine x_pure 1 [(3, .pointer (some ⟨b0_3, 0, none⟩))] _ _ _ (by kernel_rfl) ?_
  refine x_end rfl (k_then ?_)
  refine c_seq (c_plain ?_)
  refine x_pure 1 [(20, .pointer (some ⟨b0_3, 0, none⟩))] _ _ _ (by kernel_rfl) ?_
  obtain ⟨x6, hx, h⟩ := bind_some h
  have hpk : MS w3 ([[b0_3]] ++ [M]) := hms.pick [some 0, some 1] _ rfl
  have hsb0 : ∀ x ∈ fl ([[b0_3]] ++ [M]), x ∈ fl [[b0_3], M] := pick_sub [some 0, some 1] _ rfl
  have hsb : ∀ x ∈ fl ([[b0_3]] ++ [(fl [M])]), x ∈ fl [[b0_3], M] := fun x hx => hsb0 x (fl_unfold x hx)
  have hcall := gen_Maker_Job_w b0_3 a1_3 c1_3 x2.1 x2.2 10 _ w3 (fl [M]) (hpk.fold (P := [[b0_3]])) (hf3_2.sub hsb) hf3_1 hx
  refine x_call 12 #[] #[] [.pointer (some ⟨b0_3, 0, none⟩), .int .i64 10] _ rfl rfl rfl rfl hcall ?_
  rintro v w7 ⟨a0_7, c0_7, rfl, he7, hp7_0, hmn7, hfn7, hf7_1⟩
  clear hcall hx
  refine ⟨.inl rfl, ?_⟩
  have hpk2 : MS w3 ([[b0_3]] ++ [M]) := hms.pick [some 0, some 1] _ rfl
  have hsb2 : ∀ x ∈ fl ([[b0_3]] ++ [M]), x ∈ fl [[b0_3], M] := pick_sub [some 0, some 1] _ rfl
  have hst0 := Stp.call (LS := [[b0_3], M]) (res := [blk a0_7]) (par := [[b0_3]]) (R := [M]) he7 (fun b hb => hsb2 b (fl_left' (P := [[b0_3]]) b hb)) hfn7 (NP.init _ _) (fun x hx => hsb2 x (fl_right' (P := [[b0_3]]) x hx))
  have hsn : ∀ x ∈ fl [blk a0_7, [b0_3], M], x ∈ fl ([blk a0_7] ++ ([[b0_3]] ++ [M])) := pick_sub [some 0, some 1, some 2] _ rfl
  have hst := hst0.res hsn
  replace hf3_2 := hf3_2.step hst
  replace hms : MS w7 [blk a0_7, [b0_3], M] := (MS.call (P := [[b0_3]]) (R := [M]) (res := [blk a0_7]) (par := [[b0_3]]) hpk2 he7 hmn7 hfn7 (NP.init _ _)).pick [some 0, some 1, some 2] _ rfl
  have hPf : ∀ b ∈ fl [[b0_3]], w.heap.size ≤ b := FR.mem (ls := [[b0_3]]) (hfr.pick [some 0] _ rfl)
  have hfr2 : FR w.heap.size [blk a0_7, [b0_3]] := (FR.cons (fun b hb => Nat.le_trans hev.size (hfn7.at 0 rfl b hb)) (FR.cons (hfr.at 0 rfl) (FR.nil _)))
  replace hev := hev.then he7 (fun b hb => .inr (hPf b hb))
  replace hfr := hfr2
  clear hfr2
  replace hf3_1 := hp7_0
  replace hf7_1 := OwnS.plain (M' := fl [blk a0_7, [b0_3], M]) (plain_prod (plain_int _) (plain_prod (plain_int _) (plain_prod (plain_int _) (plain_int _)))) hf7_1
  clear hpk hsb hsb0 hpk2 hsb2 hst0 hsn hst
  have hpk : MS w7 [[b0_3], M] := hms.pick [some 1, some 2] _ rfl
  have hsu : ∀ x ∈ fl [[b0_3], M], x ∈ fl [blk a0_7, [b0_3], M] := pick_sub [some 1, some 2] _ rfl
  replace hf3_2 := hf3_2.sub hsu
  replace hf7_1 := hf7_1.ro hsu (pick_out hms 0 rfl [some 1, some 2] [[b0_3], M] rfl rfl)
  replace hms := hpk
  replace hfr : FR w.heap.size [[b0_3]] := hfr.pick [some 1] _ rfl
  clear hpk hsu
  refine x_alloc (z := .agg #[.slice none 0 0, .int .i64 0]) rfl rfl (by kernel_rfl) (fun b9 w9 hq9 hb9 he9 hz9 => ?_)
  replace hb9 : w9.heap[b9]? = some (.cells #[.slice none 0 0, .int .i64 0] 27 (0, 0)) := hb9
  refine ⟨.inl rfl, ?_⟩
  have hst := Stp.box (ls := [[b0_3], M]) he9 hq9
  replace hf3_1 := he9.box hf3_1 nn
  replace hf3_2 := hf3_2.step hst
  replace hf7_1 := hf7_1.step hst
  replace hms := hms.box he9 hq9 hb9
  replace hfr := hfr.box hev.size hq9
  replace hev := hev.ext he9
  obtain ⟨w11, hr11, hb11, he11⟩ := store_boxagg 0 [.slice a0_7 (x6.1.1).length c0_7, .int .i64 x6.1.2] #[.slice a0_7 (x6.1.1).length c0_7, .int .i64 x6.1.2] tagg27 hb9 rfl rfl rfl
  refine x_store w11 (xv := .pointer (some ⟨b9, 0, none⟩)) (yv := .agg #[.slice a0_7 (x6.1.1).length c0_7, .int .i64 x6.1.2]) rfl rfl rfl rfl hr11 ?_
  refine ⟨.inl rfl, ?_⟩
  have hst := Stp.ev' (ls := [[b9], [b0_3], M]) he11 (mem_flat 0 rfl)
  replace hf3_1 := he11.box hf3_1 (hms.apart 1 0 rfl rfl rfl _ (List.mem_singleton.2 rfl))
  replace hf3_2 := hf3_2.step hst
  replace hf7_1 := hf7_1.step hst
  replace hms := hms.ev he11
  replace hev := hev.then he11 (fun b hb => .inr (hfr.at 0 rfl b hb))
  replace hb9 := hb11
  refine x_end rfl (k_then ?_)
  refine c_seq (c_plain ?_)
  refine x_pure 1 [(22, .pointer (some ⟨b0_3, 0, none⟩))] _ _ _ (by kernel_rfl) ?_
  refine x_load (xv := .pointer (some ⟨b9, 0, none⟩)) (.agg #[.slice a0_7 (x6.1.1).length c0_7, .int .i64 x6.1.2]) rfl rfl rfl (reads_boxagg 0 [.slice a0_7 (x6.1.1).length c0_7, .int .i64 x6.1.2] tagg27 hb9 nn rfl) ?_
  obtain ⟨x12, hx, h⟩ := bind_some h
  have hpk : MS w11 ([[b0_3]] ++ [[b9], M]) := hms.pick [some 1, some 0, some 2] _ rfl
  have hsb0 : ∀ x ∈ fl ([[b0_3]] ++ [[b9], M]), x ∈ fl [[b9], [b0_3], M] := pick_sub [some 1, some 0, some 2] _ rfl
  have hsb : ∀ x ∈ fl ([[b0_3]] ++ [(fl [[b9], M])]), x ∈ fl [[b9], [b0_3], M] := fun x hx => hsb0 x (fl_unfold x hx)
  have hcall := law14_plan_w b0_3 a1_3 c1_3 x2.1 x6.2 a0_7 c0_7 x6.1.1 x6.1.2 _ w11 (fl [[b9], M]) (hpk.fold (P := [[b0_3]])) (hf3_2.sub hsb) hf3_1 (hf7_1.sub hsb) hx
  refine x_call 13 #[] #[] [.pointer (some ⟨b0_3, 0, none⟩), .agg #[.slice a0_7 (x6.1.1).length c0_7, .int .i64 x6.1.2]] _ rfl rfl rfl rfl hcall ?_
  rintro v w13 ⟨a0_13, c0_13, rfl, he13, hp13_0, hmn13, hfn13, hf13_1⟩
  clear hcall hx
  refine ⟨.inl rfl, ?_⟩
  have hpk2 : MS w11 ([[b0_3]] ++ [[b9], M]) := hms.pick [some 1, some 0, some 2] _ rfl
  have hsb2 : ∀ x ∈ fl ([[b0_3]] ++ [[b9], M]), x ∈ fl [[b9], [b0_3], M] := pick_sub [some 1, some 0, some 2] _ rfl
  have hst0 := Stp.call (LS := [[b9], [b0_3], M]) (res := [blk a0_13]) (par := [[b0_3]]) (R := [[b9], M]) he13 (fun b hb => hsb2 b (fl_left' (P := [[b0_3]]) b hb)) hfn13 (NP.init _ _) (fun x hx => hsb2 x (fl_right' (P := [[b0_3]]) x hx))
  have hsn : ∀ x ∈ fl [blk a0_13, [b9], [b0_3], M], x ∈ fl ([blk a0_13] ++ ([[b0_3]] ++ [[b9], M])) := pick_sub [some 0, some 2, some 1, some 3] _ rfl
  have hst := hst0.res hsn
  replace hf3_2 := hf3_2.step hst
  replace hf7_1 := hf7_1.step hst
  replace hb9 := he13.box hb9 ((MS.outs (P := [[b0_3]]) hpk2 0 rfl) _ (List.mem_singleton.2 rfl))
  replace hms : MS w13 [blk a0_13, [b9], [b0_3], M] := (MS.call (P := [[b0_3]]) (R := [[b9], M]) (res := [blk a0_13]) (par := [[b0_3]]) hpk2 he13 hmn13 hfn13 (NP.init _ _)).pick [some 0, some 2, some 1, some 3] _ rfl
  have hPf : ∀ b ∈ fl [[b0_3]], w.heap.size ≤ b := FR.mem (ls := [[b0_3]]) (hfr.pick [some 1] _ rfl)
  have hfr2 : FR w.heap.size [blk a0_13, [b9], [b0_3]] := (FR.cons (fun b hb => Nat.le_trans hev.size (hfn13.at 0 rfl b hb)) (FR.cons (hfr.at 0 rfl) (FR.cons (hfr.at 1 rfl) (FR.nil _))))
  replace hev := hev.then he13 (fun b hb => .inr (hPf b hb))
  replace hfr := hfr2
  clear hfr2
  replace hf3_1 := hp13_0
  replace hf13_1 := OwnS.plain (M' := fl [blk a0_13, [b9], [b0_3], M]) (plain_int _) hf13_1
  clear hpk hsb hsb0 hpk2 hsb2 hst0 hsn hst
  have hpk : MS w13 [[b9], [b0_3], M] := hms.pick [some 1, some 2, some 3] _ rfl
  have hsu : ∀ x ∈ fl [[b9], [b0_3], M], x ∈ fl [blk a0_13, [b9], [b0_3], M] := pick_sub [some 1, some 2, some 3] _ rfl
  replace hf3_2 := hf3_2.sub hsu
  replace hf7_1 := hf7_1.sub hsu
  replace hf13_1 := hf13_1.ro hsu (pick_out hms 0 rfl [some 1, some 2, some 3] [[b9], [b0_3], M] rfl rfl)
  replace hms := hpk
  replace hfr : FR w.heap.size [[b9], [b0_3]] := hfr.pick [some 1, some 2] _ rfl
  clear hpk hsu
  refine x_alloc (z := .agg #[.int .i64 0, .slice none 0 0]) rfl rfl (by kernel_rfl) (fun b15 w15 hq15 hb15 he15 hz15 => ?_)
  replace hb15 : w15.heap[b15]? = some (.cells #[.int .i64 0, .slice none 0 0] 30 (0, 0)) := hb15
  refine ⟨.inl rfl, ?_⟩
  have hst := Stp.box (ls := [[b9], [b0_3], M]) he15 hq15
  replace hf3_1 := he15.box hf3_1 nn
  replace hf3_2 := hf3_2.step hst
  replace hf7_1 := hf7_1.step hst
  replace hb9 := he15.box hb9 nn
  replace hf13_1 := hf13_1.step hst
  replace hms := hms.box he15 hq15 hb15
  replace hfr := hfr.box hev.size hq15
  replace hev := hev.ext he15
  obtain ⟨w17, hr17, hb17, he17⟩ := store_boxagg 0 [.int .i64 x12.1.1, .slice a0_13 (x12.1.2).length c0_13] #[.int .i64 x12.1.1, .slice a0_13 (x12.1.2).length c0_13] tagg30 hb15 rfl rfl rfl
  refine x_store w17 (xv := .pointer (some ⟨b15, 0, none⟩)) (yv := .agg #[.int .i64 x12.1.1, .slice a0_13 (x12.1.2).length c0_13]) rfl rfl rfl rfl hr17 ?_
  refine ⟨.inl rfl, ?_⟩
  have hst := Stp.ev' (ls := [[b15], [b9], [b0_3], M]) he17 (mem_flat 0 rfl)
  replace hf3_1 := he17.box hf3_1 (hms.apart 2 0 rfl rfl rfl _ (List.mem_singleton.2 rfl))
  replace hf3_2 := hf3_2.step hst
  replace hf7_1 := hf7_1.step hst
  replace hb9 := he17.box hb9 (hms.apart 1 0 rfl rfl rfl _ (List.mem_singleton.2 rfl))
  replace hf13_1 := hf13_1.step hst
  replace hms := hms.ev he17
  replace hev := hev.then he17 (fun b hb => .inr (hfr.at 0 rfl b hb))
  replace hb15 := hb17
  refine x_end rfl (k_then ?_)
  refine c_join (σ := Int × (List Int) × Option Addr × Nat) (fun s => match s with | (e16_j18_0, d21_j18, a21_j18, c21_j18) => [(4, .pointer (some ⟨b9, 0, none⟩)), (5, .pointer (some ⟨b15, 0, none⟩))]) (fun s w' => match s with | (e16_j18_0, d21_j18, a21_j18, c21_j18) => law14_RollinSorts_J18 x6 e16_j18_0 d21_j18 = some r ∧ Ev [] w w' ∧ MS w' [[b9], [b15], M] ∧ FR w.heap.size [[b9], [b15]] ∧ SlR (eProd (eInt .i64) (eProd (eInt .i64) (eProd (eInt .i64) (eInt .i64)))) w' (fl [[b9], [b15], M]) a0_7 c0_7 x6.1.1 ∧ w'.heap[b9]? = some (.cells #[.slice a0_7 (x6.1.1).length c0_7, .int .i64 x6.1.2] 27 (0, 0)) ∧ SlR (eInt .i64) w' (fl [[b9], [b15], M]) a21_j18 c21_j18 d21_j18 ∧ w'.heap[b15]? = some (.cells #[.int .i64 e16_j18_0, .slice a21_j18 (d21_j18).length c21_j18] 30 (0, 0))) ?_ ?_
  · refine c_seq (c_plain ?_)
    refine x_load (xv := .pointer (some ⟨b9, 0, none⟩)) (.agg #[.slice a0_7 (x6.1.1).length c0_7, .int .i64 x6.1.2]) rfl rfl rfl (reads_boxagg 0 [.slice a0_7 (x6.1.1).length c0_7, .int .i64 x6.1.2] tagg27 hb9 nn rfl) ?_
    obtain ⟨x19, hx, h⟩ := bind_some h
    have hpk : MS w17 ([] ++ [[b15], [b9], [b0_3], M]) := hms.pick [some 0, some 1, some 2, some 3] _ rfl
    have hsb0 : ∀ x ∈ fl ([] ++ [[b15], [b9], [b0_3], M]), x ∈ fl [[b15], [b9], [b0_3], M] := pick_sub [some 0, some 1, some 2, some 3] _ rfl
    have hsb : ∀ x ∈ fl ([] ++ [(fl [[b15], [b9], [b0_3], M])]), x ∈ fl [[b15], [b9], [b0_3], M] := fun x hx => hsb0 x (fl_unfold x hx)
    have hcall := leastcode_Least_w a0_7 c0_7 x6.1.1 x6.1.2 _ w17 (fl [[b15], [b9], [b0_3], M]) (MS.fold (P := []) hpk) (hf7_1.sub hsb) hx
    refine x_call 27 #[] #[] [.agg #[.slice a0_7 (x6.1.1).length c0_7, .int .i64 x6.1.2]] _ rfl rfl rfl rfl hcall ?_
    rintro v w20 ⟨a0_20, c0_20, rfl, he20, hmn20, hfn20, hf20_1⟩
    clear hcall hx
    refine ⟨.inl rfl, ?_⟩
    have hpk2 : MS w17 ([] ++ [[b15], [b9], [b0_3], M]) := hms.pick [some 0, some 1, some 2, some 3] _ rfl
    have hsb2 : ∀ x ∈ fl ([] ++ [[b15], [b9], [b0_3], M]), x ∈ fl [[b15], [b9], [b0_3], M] := pick_sub [some 0, some 1, some 2, some 3] _ rfl
    have hst0 := Stp.call (LS := [[b15], [b9], [b0_3], M]) (res := [blk a0_20]) (par := []) (R := [[b15], [b9], [b0_3], M]) he20 (fun b hb => hsb2 b (fl_left' (P := []) b hb)) hfn20 (NP.init _ _) (fun x hx => hsb2 x (fl_right' (P := []) x hx))
    have hsn : ∀ x ∈ fl [blk a0_20, [b15], [b9], [b0_3], M], x ∈ fl ([blk a0_20] ++ ([] ++ [[b15], [b9], [b0_3], M])) := pick_sub [some 0, some 1, some 2, some 3, some 4] _ rfl
    have hst := hst0.res hsn
    replace hf3_1 := he20.box hf3_1 ((MS.outs (P := []) hpk2 2 rfl) _ (List.mem_singleton.2 rfl))
    replace hf3_2 := hf3_2.step hst
    replace hf7_1 := hf7_1.step hst
    replace hb9 := he20.box hb9 ((MS.outs (P := []) hpk2 1 rfl) _ (List.mem_singleton.2 rfl))
    replace hf13_1 := hf13_1.step hst
    replace hb15 := he20.box hb15 ((MS.outs (P := []) hpk2 0 rfl) _ (List.mem_singleton.2 rfl))
    replace hms : MS w20 [blk a0_20, [b15], [b9], [b0_3], M] := (MS.call (P := []) (R := [[b15], [b9], [b0_3], M]) (res := [blk a0_20]) (par := []) hpk2 he20 hmn20 hfn20 (NP.init _ _)).pick [some 0, some 1, some 2, some 3, some 4] _ rfl
    have hfr2 : FR w.heap.size [blk a0_20, [b15], [b9], [b0_3]] := (FR.cons (fun b hb => Nat.le_trans hev.size (hfn20.at 0 rfl b hb)) (FR.cons (hfr.at 0 rfl) (FR.cons (hfr.at 1 rfl) (FR.cons (hfr.at 2 rfl) (FR.nil _)))))
    replace hev := hev.ext he20
    replace hfr := hfr2
    clear hfr2
    replace hf20_1 := OwnS.plain (M' := fl [blk a0_20, [b15], [b9], [b0_3], M]) (plain_int _) hf20_1
    clear hpk hsb hsb0 hpk2 hsb2 hst0 hsn hst
    refine x_pure 3 [(25, .tuple #[.agg #[.int .i64 x19.1.1, .slice a0_20 (x19.1.2).length c0_20], .int .i64 x19.2]), (28, .agg #[.int .i64 x19.1.1, .slice a0_20 (x19.1.2).length c0_20]), (29, .int .i64 x19.2)] _ _ _ (by kernel_rfl) ?_
    refine x_alloc (z := .agg #[.int .i64 0, .slice none 0 0]) rfl rfl (by kernel_rfl) (fun b22 w22 hq22 hb22 he22 hz22 => ?_)
    replace hb22 : w22.heap[b22]? = some (.cells #[.int .i64 0, .slice none 0 0] 30 (0, 0)) := hb22
    refine ⟨.inl rfl, ?_⟩
    have hst := Stp.box (ls := [blk a0_20, [b15], [b9], [b0_3], M]) he22 hq22
    replace hf3_1 := he22.box hf3_1 nn
    replace hf3_2 := hf3_2.step hst
    replace hf7_1 := hf7_1.step hst
    replace hb9 := he22.box hb9 nn
    replace hf13_1 := hf13_1.step hst
    replace hb15 := he22.box hb15 nn
    replace hf20_1 := hf20_1.step hst he22 nn2
    replace hms := hms.box he22 hq22 hb22
    replace hfr := hfr.box hev.size hq22
    replace hev := hev.ext he22
    obtain ⟨w24, hr24, hb24, he24⟩ := store_boxagg 0 [.int .i64 x19.1.1, .slice a0_20 (x19.1.2).length c0_20] #[.int .i64 x19.1.1, .slice a0_20 (x19.1.2).length c0_20] tagg30 hb22 rfl rfl rfl
    refine x_store w24 (xv := .pointer (some ⟨b22, 0, none⟩)) (yv := .agg #[.int .i64 x19.1.1, .slice a0_20 (x19.1.2).length c0_20]) rfl rfl rfl rfl hr24 ?_
    refine ⟨.inl rfl, ?_⟩
    have hst := Stp.ev' (ls := [[b22], blk a0_20, [b15], [b9], [b0_3], M]) he24 (mem_flat 0 rfl)
    replace hf3_1 := he24.box hf3_1 (hms.apart 4 0 rfl rfl rfl _ (List.mem_singleton.2 rfl))
    replace hf3_2 := hf3_2.step hst
    replace hf7_1 := hf7_1.step hst
    replace hb9 := he24.box hb9 (hms.apart 3 0 rfl rfl rfl _ (List.mem_singleton.2 rfl))
    replace hf13_1 := hf13_1.step hst
    replace hb15 := he24.box hb15 (hms.apart 2 0 rfl rfl rfl _ (List.mem_singleton.2 rfl))
    replace hf20_1 := hf20_1.step hst he24 (hms.apart 1 0 rfl rfl rfl)
    replace hms := hms.ev he24
    replace hev := hev.then he24 (fun b hb => .inr (hfr.at 0 rfl b hb))
    replace hb22 := hb24
    refine x_pure 1 [(7, .int .i64 x19.2)] _ _ _ (by kernel_rfl) ?_
    refine x_end rfl (k_then ?_)
    refine c_norm [(3, .pointer (some ⟨b0_3, 0, none⟩)), (4, .pointer (some ⟨b9, 0, none⟩)), (5, .pointer (some ⟨b15, 0, none⟩)), (6, .pointer (some ⟨b22, 0, none⟩)), (7, .int .i64 x19.2)] ⟨rfl, rfl, rfl, rfl, rfl, trivial⟩ (fun J => ?_)
    refine c_join (σ := Int × Bool) (fun s => match s with | (e4_j25_1, t45__s45_j25) => [(3, .pointer (some ⟨b0_3, 0, none⟩)), (4, .pointer (some ⟨b9, 0, none⟩)), (5, .pointer (some ⟨b15, 0, none⟩)), (6, .pointer (some ⟨b22, 0, none⟩)), (45, .bool t45__s45_j25)]) (fun s w' => match s with | (e4_j25_1, t45__s45_j25) => law14_RollinSorts_J25 x2 x6 x12 x19 e4_j25_1 t45__s45_j25 = some r ∧ Ev [] w w' ∧ MS w' [[b0_3], [b9], [b15], blk a0_20, [b22], M] ∧ FR w.heap.size [[b0_3], [b9], [b15], blk a0_20, [b22]] ∧ SlR (eInt .i64) w' (fl [[b0_3], [b9], [b15], blk a0_20, [b22], M]) a1_3 c1_3 x2.1 ∧ w'.heap[b0_3]? = some (.cells #[.slice a1_3 (x2.1).length c1_3, .int .i64 e4_j25_1] 67 (0, 0)) ∧ SlR (eProd (eInt .i64) (eProd (eInt .i64) (eProd (eInt .i64) (eInt .i64)))) w' (fl [[b0_3], [b9], [b15], blk a0_20, [b22], M]) a0_7 c0_7 x6.1.1 ∧ w'.heap[b9]? = some (.cells #[.slice a0_7 (x6.1.1).length c0_7, .int .i64 x6.1.2] 27 (0, 0)) ∧ SlR (eInt .i64) w' (fl [[b0_3], [b9], [b15], blk a0_20, [b22], M]) a0_13 c0_13 x12.1.2 ∧ w'.heap[b15]? = some (.cells #[.int .i64 x12.1.1, .slice a0_13 (x12.1.2).length c0_13] 30 (0, 0)) ∧ OwnS (eInt .i64) 3 w' (fl [[b0_3], [b9], [b15], blk a0_20, [b22], M]) a0_20 c0_20 x19.1.2 ∧ w'.heap[b22]? = some (.cells #[.int .i64 x19.1.1, .slice a0_20 (x19.1.2).length c0_20] 30 (0, 0))) ?_ ?_
    · refine c_plain ?_
      refine x_pure 3 [(30, .int .i64 x19.2), (31, .bool (x19.2 == 0)), (32, .bool (x19.2 == 0))] _ _ _ (by kernel_rfl) ?_
      refine x_split 32 (x19.2 == 0) rfl (fun hb => ?_) (fun hb => ?_)
      · replace h := ite_t hb h
        refine x_pure 1 [(33, .pointer (some ⟨b0_3, 0, none⟩))] _ _ _ (by kernel_rfl) ?_
        obtain ⟨x26, hx, h⟩ := bind_some h
        have hpk : MS w24 ([[b0_3]] ++ [[b22], blk a0_20, [b15], [b9], M]) := hms.pick [some 4, some 0, some 1, some 2, some 3, some 5] _ rfl
        have hsb0 : ∀ x ∈ fl ([[b0_3]] ++ [[b22], blk a0_20, [b15], [b9], M]), x ∈ fl [[b22], blk a0_20, [b15], [b9], [b0_3], M] := pick_sub [some 4, some 0, some 1, some 2, some 3, some 5] _ rfl
        have hsb : ∀ x ∈ fl ([[b0_3]] ++ [(fl [[b22], blk a0_20, [b15], [b9], M])]), x ∈ fl [[b22], blk a0_20, [b15], [b9], [b0_3], M] := fun x hx => hsb0 x (fl_unfold x hx)
        have hcall := gen_Maker_Next_w b0_3 a1_3 c1_3 x2.1 x12.2 2 _ w24 (fl [[b22], blk a0_20, [b15], [b9], M]) (hpk.fold (P := [[b0_3]])) (hf3_2.sub hsb) hf3_1 hx
        refine x_call 23 #[] #[] [.pointer (some ⟨b0_3, 0, none⟩), .int .i64 2] _ rfl rfl rfl rfl hcall ?_
        rintro v w27 ⟨rfl, he27, hp27_0⟩
        clear hcall hx
        refine ⟨.inl rfl, ?_⟩
        have hpk2 : MS w24 ([[b0_3]] ++ [[b22], blk a0_20, [b15], [b9], M]) := hms.pick [some 4, some 0, some 1, some 2, some 3, some 5] _ rfl
        have hsb2 : ∀ x ∈ fl ([[b0_3]] ++ [[b22], blk a0_20, [b15], [b9], M]), x ∈ fl [[b22], blk a0_20, [b15], [b9], [b0_3], M] := pick_sub [some 4, some 0, some 1, some 2, some 3, some 5] _ rfl
        have hst0 := Stp.call (LS := [[b22], blk a0_20, [b15], [b9], [b0_3], M]) (res := []) (par := [[b0_3]]) (R := [[b22], blk a0_20, [b15], [b9], M]) he27 (fun b hb => hsb2 b (fl_left' (P := [[b0_3]]) b hb)) (FR.nil _) (NP.init _ _) (fun x hx => hsb2 x (fl_right' (P := [[b0_3]]) x hx))
        have hsn : ∀ x ∈ fl [[b22], blk a0_20, [b15], [b9], [b0_3], M], x ∈ fl ([] ++ ([[b0_3]] ++ [[b22], blk a0_20, [b15], [b9], M])) := pick_sub [some 1, some 2, some 3, some 4, some 0, some 5] _ rfl
        have hst := hst0.res hsn
        replace hf3_2 := hf3_2.step hst
        replace hf7_1 := hf7_1.step hst
        replace hb9 := he27.box hb9 ((MS.outs (P := [[b0_3]]) hpk2 3 rfl) _ (List.mem_singleton.2 rfl))
        replace hf13_1 := hf13_1.step hst
        replace hb15 := he27.box hb15 ((MS.outs (P := [[b0_3]]) hpk2 2 rfl) _ (List.mem_singleton.2 rfl))
        replace hf20_1 := hf20_1.step hst he27 (MS.outs (P := [[b0_3]]) hpk2 1 rfl)
        replace hb22 := he27.box hb22 ((MS.outs (P := [[b0_3]]) hpk2 0 rfl) _ (List.mem_singleton.2 rfl))
        replace hms := hms.ev he27
        have hPf : ∀ b ∈ fl [[b0_3]], w.heap.size ≤ b := FR.mem (ls := [[b0_3]]) (hfr.pick [some 4] _ rfl)
        replace hev := hev.then he27 (fun b hb => .inr (hPf b hb))
        replace hf3_1 := hp27_0
        clear hpk hsb hsb0 hpk2 hsb2 hst0 hsn hst
        refine x_pure 3 [(35, .bool (x26.1 == 0)), (36, .bool (x26.1 == 0)), (37, .bool (x26.1 == 0))] _ _ _ (by kernel_rfl) ?_
        refine x_split 37 (x26.1 == 0) rfl (fun hb => ?_) (fun hb => ?_)
        · replace h := ite_t hb h
          refine x_fieldAddr (xv := .pointer (some ⟨b22, 0, none⟩)) (.pointer (some ⟨b22, 1, none⟩)) rfl rfl rfl (reads_field tfld30_1 _ _) ?_
          refine x_load (xv := .pointer (some ⟨b22, 1, none⟩)) (.slice a0_20 (x19.1.2).length c0_20) rfl rfl rfl (reads_box tcell22 hb22 nn 1 _ rfl) ?_
          refine x_len (vs := [.slice a0_20 (x19.1.2).length c0_20]) (.int .i64 ((x19.1.2).length : Int)) rfl rfl rfl (reads_len tsl22 _ _ _ _ _) ?_
          refine x_fieldAddr (xv := .pointer (some ⟨b9, 0, none⟩)) (.pointer (some ⟨b9, 0, none⟩)) rfl rfl rfl (reads_field tfld27_0 _ _) ?_
          refine x_load (xv := .pointer (some ⟨b9, 0, none⟩)) (.slice a0_7 (x6.1.1).length c0_7) rfl rfl rfl (reads_box tcell25 hb9 nn 0 _ rfl) ?_
          refine x_len (vs := [.slice a0_7 (x6.1.1).length c0_7]) (.int .i64 ((x6.1.1).length : Int)) rfl rfl rfl (reads_len tsl25 _ _ _ _ _) ?_
          refine x_pure 2 [(44, .bool (((x19.1.2).length : Int) == ((x6.1.1).length : Int))), (45, .bool (((x19.1.2).length : Int) == ((x6.1.1).length : Int)))] _ _ _ (by kernel_rfl) ?_
          refine x_end rfl ?_
          have hpk : MS w27 [[b0_3], [b9], [b15], blk a0_20, [b22], M] := hms.pick [some 4, some 3, some 2, some 1, some 0, some 5] _ rfl
          have hsu : ∀ x ∈ fl [[b0_3], [b9], [b15], blk a0_20, [b22], M], x ∈ fl [[b22], blk a0_20, [b15], [b9], [b0_3], M] := pick_sub [some 4, some 3, some 2, some 1, some 0, some 5] _ rfl
          replace hf3_2 := hf3_2.sub hsu
          replace hf7_1 := hf7_1.sub hsu
          replace hf13_1 := hf13_1.sub hsu
          replace hf20_1 := hf20_1.sub hsu
          replace hms := hpk
          replace hfr : FR w.heap.size [[b0_3], [b9], [b15], blk a0_20, [b22]] := hfr.pick [some 4, some 3, some 2, some 1, some 0] _ rfl
          clear hpk hsu
          exact k_then ⟨(x26.2, ((x19.1.2).length : Int) == ((x6.1.1).length : Int)), ⟨rfl, rfl, rfl, rfl, rfl, trivial⟩, h, hev, hms, hfr, hf3_2, hf3_1, hf7_1, hb9, hf13_1, hb15, hf20_1, hb22⟩
        replace h := ite_f hb h
        refine x_pure 8 [(38, undef), (39, undef), (40, undef), (41, undef), (42, undef), (43, undef), (44, undef), (45, .bool false)] _ _ _ (by kernel_rfl) ?_
        refine x_end rfl ?_
        have hpk : MS w27 [[b0_3], [b9], [b15], blk a0_20, [b22], M] := hms.pick [some 4, some 3, some 2, some 1, some 0, some 5] _ rfl
        have hsu : ∀ x ∈ fl [[b0_3], [b9], [b15], blk a0_20, [b22], M], x ∈ fl [[b22], blk a0_20, [b15], [b9], [b0_3], M] := pick_sub [some 4, some 3, some 2, some 1, some 0, some 5] _ rfl
        replace hf3_2 := hf3_2.sub hsu
        replace hf7_1 := hf7_1.sub hsu
        replace hf13_1 := hf13_1.sub hsu
        replace hf20_1 := hf20_1.sub hsu
        replace hms := hpk
        replace hfr : FR w.heap.size [[b0_3], [b9], [b15], blk a0_20, [b22]] := hfr.pick [some 4, some 3, some 2, some 1, some 0] _ rfl
        clear hpk hsu
        exact k_then ⟨(x26.2, false), ⟨rfl, rfl, rfl, rfl, rfl, trivial⟩, h, hev, hms, hfr, hf3_2, hf3_1, hf7_1, hb9, hf13_1, hb15, hf20_1, hb22⟩
      replace h := ite_f hb h
      refine x_pure 13 [(33, undef), (34, undef), (35, undef), (36, .bool false), (37, .bool false), (38, undef), (39, undef), (40, undef), (41, undef), (42, undef), (43, undef), (44, undef), (45, .bool false)] _ _ _ (by kernel_rfl) ?_
      refine x_end rfl ?_
      have hpk : MS w24 [[b0_3], [b9], [b15], blk a0_20, [b22], M] := hms.pick [some 4, some 3, some 2, some 1, some 0, some 5] _ rfl
      have hsu : ∀ x ∈ fl [[b0_3], [b9], [b15], blk a0_20, [b22], M], x ∈ fl [[b22], blk a0_20, [b15], [b9], [b0_3], M] := pick_sub [some 4, some 3, some 2, some 1, some 0, some 5] _ rfl
      replace hf3_2 := hf3_2.sub hsu
      replace hf7_1 := hf7_1.sub hsu
      replace hf13_1 := hf13_1.sub hsu
      replace hf20_1 := hf20_1.sub hsu
      replace hms := hpk
      replace hfr : FR w.heap.size [[b0_3], [b9], [b15], blk a0_20, [b22]] := hfr.pick [some 4, some 3, some 2, some 1, some 0] _ rfl
      clear hpk hsu
      exact k_then ⟨(x12.2, false), ⟨rfl, rfl, rfl, rfl, rfl, trivial⟩, h, hev, hms, hfr, hf3_2, hf3_1, hf7_1, hb9, hf13_1, hb15, hf20_1, hb22⟩
    rintro ⟨e4_j25_1, t45__s45_j25⟩ J wj25 ⟨h, hev, hms, hfr, hf3_2, hf3_1, hf7_1, hb9, hf13_1, hb15, hf20_1, hb22⟩
    refine c_cond t45__s45_j25 rfl (fun hb => ?_) (fun hb => ?_)
    · replace h := ite_t hb h
      refine c_seq (c_plain ?_)
      refine x_load (xv := .pointer (some ⟨b22, 0, none⟩)) (.agg #[.int .i64 x19.1.1, .slice a0_20 (x19.1.2).length c0_20]) rfl rfl rfl (reads_boxagg 0 [.int .i64 x19.1.1, .slice a0_20 (x19.1.2).length c0_20] tagg30 hb22 nn rfl) ?_
      obtain ⟨w28, hr28, hb28, he28⟩ := store_boxagg 0 [.int .i64 x19.1.1, .slice a0_20 (x19.1.2).length c0_20] #[.int .i64 x19.1.1, .slice a0_20 (x19.1.2).length c0_20] tagg30 hb15 rfl rfl rfl
      refine x_store w28 (xv := .pointer (some ⟨b15, 0, none⟩)) (yv := .agg #[.int .i64 x19.1.1, .slice a0_20 (x19.1.2).length c0_20]) rfl rfl rfl rfl hr28 ?_
      refine ⟨.inl rfl, ?_⟩
      have hst := Stp.ev' (ls := [[b0_3], [b9], [b15], blk a0_20, [b22], M]) he28 (mem_flat 2 rfl)
      replace hf3_1 := he28.box hf3_1 (hms.apart 0 2 rfl rfl rfl _ (List.mem_singleton.2 rfl))
      replace hf3_2 := hf3_2.step hst
      replace hb9 := he28.box hb9 (hms.apart 1 2 rfl rfl rfl _ (List.mem_singleton.2 rfl))
      replace hf7_1 := hf7_1.step hst
      replace hf13_1 := hf13_1.step hst
      replace hb22 := he28.box hb22 (hms.apart 4 2 rfl rfl rfl _ (List.mem_singleton.2 rfl))
      replace hf20_1 := hf20_1.step hst he28 (hms.apart 3 2 rfl rfl rfl)
      replace hms := hms.ev he28
      replace hev := hev.then he28 (fun b hb => .inr (hfr.at 2 rfl b hb))
      replace hb15 := hb28
      refine x_end rfl (k_then ?_)
      refine c_norm [(3, .pointer (some ⟨b0_3, 0, none⟩)), (4, .pointer (some ⟨b9, 0, none⟩)), (5, .pointer (some ⟨b15, 0, none⟩)), (6, .pointer (some ⟨b22, 0, none⟩))] ⟨rfl, rfl, rfl, rfl, trivial⟩ (fun J => ?_)
      refine c_join (σ := Int × Bool) (fun s => match s with | (e4_j29_1, t55__s55_j29) => [(3, .pointer (some ⟨b0_3, 0, none⟩)), (4, .pointer (some ⟨b9, 0, none⟩)), (5, .pointer (some ⟨b15, 0, none⟩)), (6, .pointer (some ⟨b22, 0, none⟩)), (55, .bool t55__s55_j29)]) (fun s w' => match s with | (e4_j29_1, t55__s55_j29) => law14_RollinSorts_J29 x2 x6 x19 e4_j29_1 t55__s55_j29 = some r ∧ Ev [] w w' ∧ MS w' [[b0_3], [b9], blk a0_20, [b15], [b22], M] ∧ FR w.heap.size [[b0_3], [b9], blk a0_20, [b15], [b22]] ∧ SlR (eInt .i64) w' (fl [[b0_3], [b9], blk a0_20, [b15], [b22], M]) a1_3 c1_3 x2.1 ∧ w'.heap[b0_3]? = some (.cells #[.slice a1_3 (x2.1).length c1_3, .int .i64 e4_j29_1] 67 (0, 0)) ∧ SlR (eProd (eInt .i64) (eProd (eInt .i64) (eProd (eInt .i64) (eInt .i64)))) w' (fl [[b0_3], [b9], blk a0_20, [b15], [b22], M]) a0_7 c0_7 x6.1.1 ∧ w'.heap[b9]? = some (.cells #[.slice a0_7 (x6.1.1).length c0_7, .int .i64 x6.1.2] 27 (0, 0)) ∧ OwnS (eInt .i64) 3 w' (fl [[b0_3], [b9], blk a0_20, [b15], [b22], M]) a0_20 c0_20 x19.1.2 ∧ w'.heap[b15]? = some (.cells #[.int .i64 x19.1.1, .slice a0_20 (x19.1.2).length c0_20] 30 (0, 0)) ∧ w'.heap[b22]? = some (.cells #[.int .i64 x19.1.1, .slice a0_20 (x19.1.2).length c0_20] 30 (0, 0))) ?_ ?_
      · refine c_plain ?_
        refine x_fieldAddr (xv := .pointer (some ⟨b22, 0, none⟩)) (.pointer (some ⟨b22, 1, none⟩)) rfl rfl rfl (reads_field tfld30_1 _ _) ?_
        refine x_load (xv := .pointer (some ⟨b22, 1, none⟩)) (.slice a0_20 (x19.1.2).length c0_20) rfl rfl rfl (reads_box tcell22 hb22 nn 1 _ rfl) ?_
        refine x_len (vs := [.slice a0_20 (x19.1.2).length c0_20]) (.int .i64 ((x19.1.2).length : Int)) rfl rfl rfl (reads_len tsl22 _ _ _ _ _) ?_
        refine x_pure 2 [(50, .bool (decide (((x19.1.2).length : Int) > 0))), (51, .bool (decide (((x19.1.2).length : Int) > 0)))] _ _ _ (by kernel_rfl) ?_
        refine x_split 51 (decide (((x19.1.2).length : Int) > 0)) rfl (fun hb => ?_) (fun hb => ?_)
        · replace h := ite_t hb h
          refine x_pure 1 [(52, .pointer (some ⟨b0_3, 0, none⟩))] _ _ _ (by kernel_rfl) ?_
          obtain ⟨x30, hx, h⟩ := bind_some h
          have hpk : MS w28 ([[b0_3]] ++ [[b9], [b15], blk a0_20, [b22], M]) := hms.pick [some 0, some 1, some 2, some 3, some 4, some 5] _ rfl
          have hsb0 : ∀ x ∈ fl ([[b0_3]] ++ [[b9], [b15], blk a0_20, [b22], M]), x ∈ fl [[b0_3], [b9], [b15], blk a0_20, [b22], M] := pick_sub [some 0, some 1, some 2, some 3, some 4, some 5] _ rfl
          have hsb : ∀ x ∈ fl ([[b0_3]] ++ [(fl [[b9], [b15], blk a0_20, [b22], M])]), x ∈ fl [[b0_3], [b9], [b15], blk a0_20, [b22], M] := fun x hx => hsb0 x (fl_unfold x hx)
          have hcall := gen_Maker_Next_w b0_3 a1_3 c1_3 x2.1 e4_j25_1 2 _ w28 (fl [[b9], [b15], blk a0_20, [b22], M]) (hpk.fold (P := [[b0_3]])) (hf3_2.sub hsb) hf3_1 hx
          refine x_call 23 #[] #[] [.pointer (some ⟨b0_3, 0, none⟩), .int .i64 2] _ rfl rfl rfl rfl hcall ?_
          rintro v w31 ⟨rfl, he31, hp31_0⟩
          clear hcall hx
          refine ⟨.inl rfl, ?_⟩
          have hpk2 : MS w28 ([[b0_3]] ++ [[b9], [b15], blk a0_20, [b22], M]) := hms.pick [some 0, some 1, some 2, some 3, some 4, some 5] _ rfl
          have hsb2 : ∀ x ∈ fl ([[b0_3]] ++ [[b9], [b15], blk a0_20, [b22], M]), x ∈ fl [[b0_3], [b9], [b15], blk a0_20, [b22], M] := pick_sub [some 0, some 1, some 2, some 3, some 4, some 5] _ rfl
          have hst0 := Stp.call (LS := [[b0_3], [b9], [b15], blk a0_20, [b22], M]) (res := []) (par := [[b0_3]]) (R := [[b9], [b15], blk a0_20, [b22], M]) he31 (fun b hb => hsb2 b (fl_left' (P := [[b0_3]]) b hb)) (FR.nil _) (NP.init _ _) (fun x hx => hsb2 x (fl_right' (P := [[b0_3]]) x hx))
          have hsn : ∀ x ∈ fl [[b0_3], [b9], [b15], blk a0_20, [b22], M], x ∈ fl ([] ++ ([[b0_3]] ++ [[b9], [b15], blk a0_20, [b22], M])) := pick_sub [some 0, some 1, some 2, some 3, some 4, some 5] _ rfl
          have hst := hst0.res hsn
          replace hf3_2 := hf3_2.step hst
          replace hb9 := he31.box hb9 ((MS.outs (P := [[b0_3]]) hpk2 0 rfl) _ (List.mem_singleton.2 rfl))
          replace hf7_1 := hf7_1.step hst
          replace hb15 := he31.box hb15 ((MS.outs (P := [[b0_3]]) hpk2 1 rfl) _ (List.mem_singleton.2 rfl))
          replace hb22 := he31.box hb22 ((MS.outs (P := [[b0_3]]) hpk2 3 rfl) _ (List.mem_singleton.2 rfl))
          replace hf20_1 := hf20_1.step hst he31 (MS.outs (P := [[b0_3]]) hpk2 2 rfl)
          replace hms := hms.ev he31
          have hPf : ∀ b ∈ fl [[b0_3]], w.heap.size ≤ b := FR.mem (ls := [[b0_3]]) (hfr.pick [some 0] _ rfl)
          replace hev := hev.then he31 (fun b hb => .inr (hPf b hb))
          replace hf3_1 := hp31_0
          clear hpk hsb hsb0 hpk2 hsb2 hst0 hsn hst
          refine x_pure 2 [(54, .bool (x30.1 == 0)), (55, .bool (x30.1 == 0))] _ _ _ (by kernel_rfl) ?_
          refine x_end rfl ?_
          have hpk : MS w31 [[b0_3], [b9], blk a0_20, [b15], [b22], M] := hms.pick [some 0, some 1, some 3, some 2, some 4, some 5] _ rfl
          have hsu : ∀ x ∈ fl [[b0_3], [b9], blk a0_20, [b15], [b22], M], x ∈ fl [[b0_3], [b9], [b15], blk a0_20, [b22], M] := pick_sub [some 0, some 1, some 3, some 2, some 4, some 5] _ rfl
          replace hf3_2 := hf3_2.sub hsu
          replace hf7_1 := hf7_1.sub hsu
          replace hf20_1 := hf20_1.sub hsu
          replace hms := hpk
          replace hfr : FR w.heap.size [[b0_3], [b9], blk a0_20, [b15], [b22]] := hfr.pick [some 0, some 1, some 3, some 2, some 4] _ rfl
          clear hpk hsu
          exact k_then ⟨(x30.2, x30.1 == 0), ⟨rfl, rfl, rfl, rfl, rfl, trivial⟩, h, hev, hms, hfr, hf3_2, hf3_1, hf7_1, hb9, hf20_1, hb15, hb22⟩
        replace h := ite_f hb h
        refine x_pure 4 [(52, undef), (53, undef), (54, undef), (55, .bool false)] _ _ _ (by kernel_rfl) ?_
        refine x_end rfl ?_
        have hpk : MS w28 [[b0_3], [b9], blk a0_20, [b15], [b22], M] := hms.pick [some 0, some 1, some 3, some 2, some 4, some 5] _ rfl
        have hsu : ∀ x ∈ fl [[b0_3], [b9], blk a0_20, [b15], [b22], M], x ∈ fl [[b0_3], [b9], [b15], blk a0_20, [b22], M] := pick_sub [some 0, some 1, some 3, some 2, some 4, some 5] _ rfl
        replace hf3_2 := hf3_2.sub hsu
        replace hf7_1 := hf7_1.sub hsu
        replace hf20_1 := hf20_1.sub hsu
        replace hms := hpk
        replace hfr : FR w.heap.size [[b0_3], [b9], blk a0_20, [b15], [b22]] := hfr.pick [some 0, some 1, some 3, some 2, some 4] _ rfl
        clear hpk hsu
        exact k_then ⟨(e4_j25_1, false), ⟨rfl, rfl, rfl, rfl, rfl, trivial⟩, h, hev, hms, hfr, hf3_2, hf3_1, hf7_1, hb9, hf20_1, hb15, hb22⟩
      rintro ⟨e4_j29_1, t55__s55_j29⟩ J wj29 ⟨h, hev, hms, hfr, hf3_2, hf3_1, hf7_1, hb9, hf20_1, hb15, hb22⟩
      refine c_cond t55__s55_j29 rfl (fun hb => ?_) (fun hb => ?_)
      · replace h := ite_t hb h
        refine c_seq (c_plain ?_)
        refine x_pure 1 [(56, .pointer (some ⟨b0_3, 0, none⟩))] _ _ _ (by kernel_rfl) ?_
        refine x_fieldAddr (xv := .pointer (some ⟨b22, 0, none⟩)) (.pointer (some ⟨b22, 1, none⟩)) rfl rfl rfl (reads_field tfld30_1 _ _) ?_
        refine x_load (xv := .pointer (some ⟨b22, 1, none⟩)) (.slice a0_20 (x19.1.2).length c0_20) rfl rfl rfl (reads_box tcell22 hb22 nn 1 _ rfl) ?_
        refine x_len (vs := [.slice a0_20 (x19.1.2).length c0_20]) (.int .i64 ((x19.1.2).length : Int)) rfl rfl rfl (reads_len tsl22 _ _ _ _ _) ?_
        obtain ⟨x32, hx, h⟩ := bind_some h
        have hpk : MS wj29 ([[b0_3]] ++ [[b9], blk a0_20, [b15], [b22], M]) := hms.pick [some 0, some 1, some 2, some 3, some 4, some 5] _ rfl
        have hsb0 : ∀ x ∈ fl ([[b0_3]] ++ [[b9], blk a0_20, [b15], [b22], M]), x ∈ fl [[b0_3], [b9], blk a0_20, [b15], [b22], M] := pick_sub [some 0, some 1, some 2, some 3, some 4, some 5] _ rfl
        have hsb : ∀ x ∈ fl ([[b0_3]] ++ [(fl [[b9], blk a0_20, [b15], [b22], M])]), x ∈ fl [[b0_3], [b9], blk a0_20, [b15], [b22], M] := fun x hx => hsb0 x (fl_unfold x hx)
        have hcall := gen_Maker_Next_w b0_3 a1_3 c1_3 x2.1 e4_j29_1 ((x19.1.2).length : Int) _ wj29 (fl [[b9], blk a0_20, [b15], [b22], M]) (hpk.fold (P := [[b0_3]])) (hf3_2.sub hsb) hf3_1 hx
        refine x_call 23 #[] #[] [.pointer (some ⟨b0_3, 0, none⟩), .int .i64 ((x19.1.2).length : Int)] _ rfl rfl rfl rfl hcall ?_
        rintro v w33 ⟨rfl, he33, hp33_0⟩
        clear hcall hx
        refine ⟨.inl rfl, ?_⟩
        have hpk2 : MS wj29 ([[b0_3]] ++ [[b9], blk a0_20, [b15], [b22], M]) := hms.pick [some 0, some 1, some 2, some 3, some 4, some 5] _ rfl
        have hsb2 : ∀ x ∈ fl ([[b0_3]] ++ [[b9], blk a0_20, [b15], [b22], M]), x ∈ fl [[b0_3], [b9], blk a0_20, [b15], [b22], M] := pick_sub [some 0, some 1, some 2, some 3, some 4, some 5] _ rfl
        have hst0 := Stp.call (LS := [[b0_3], [b9], blk a0_20, [b15], [b22], M]) (res := []) (par := [[b0_3]]) (R := [[b9], blk a0_20, [b15], [b22], M]) he33 (fun b hb => hsb2 b (fl_left' (P := [[b0_3]]) b hb)) (FR.nil _) (NP.init _ _) (fun x hx => hsb2 x (fl_right' (P := [[b0_3]]) x hx))
        have hsn : ∀ x ∈ fl [[b0_3], [b9], blk a0_20, [b15], [b22], M], x ∈ fl ([] ++ ([[b0_3]] ++ [[b9], blk a0_20, [b15], [b22], M])) := pick_sub [some 0, some 1, some 2, some 3, some 4, some 5] _ rfl
        have hst := hst0.res hsn
        replace hf3_2 := hf3_2.step hst
        replace hb9 := he33.box hb9 ((MS.outs (P := [[b0_3]]) hpk2 0 rfl) _ (List.mem_singleton.2 rfl))
        replace hf7_1 := hf7_1.step hst
        replace hb15 := he33.box hb15 ((MS.outs (P := [[b0_3]]) hpk2 2 rfl) _ (List.mem_singleton.2 rfl))
        replace hf20_1 := hf20_1.step hst he33 (MS.outs (P := [[b0_3]]) hpk2 1 rfl)
        replace hb22 := he33.box hb22 ((MS.outs (P := [[b0_3]]) hpk2 3 rfl) _ (List.mem_singleton.2 rfl))
        replace hms := hms.ev he33
        have hPf : ∀ b ∈ fl [[b0_3]], w.heap.size ≤ b := FR.mem (ls := [[b0_3]]) (hfr.pick [some 0] _ rfl)
        replace hev := hev.then he33 (fun b hb => .inr (hPf b hb))
        replace hf3_1 := hp33_0
        clear hpk hsb hsb0 hpk2 hsb2 hst0 hsn hst
        refine x_pure 1 [(8, .int .i64 x32.1)] _ _ _ (by kernel_rfl) ?_
        refine x_end rfl (k_then ?_)
        refine c_norm [(3, .pointer (some ⟨b0_3, 0, none⟩)), (4, .pointer (some ⟨b9, 0, none⟩)), (5, .pointer (some ⟨b15, 0, none⟩)), (6, .pointer (some ⟨b22, 0, none⟩)), (8, .int .i64 x32.1)] ⟨rfl, rfl, rfl, rfl, rfl, trivial⟩ (fun J => ?_)
        refine c_seq ?_
        refine c_drawn [b0_3] [(0, false), (1, false), (2, false), (3, false), (5, false), (6, false), (7, false), (8, false), (9, false), (10, false), (11, false), (12, false), (4, false), (13, false), (14, false), (15, false), (16, false), (17, true), (18, true)] _ (by kernel_rfl) rfl ?_
        have hst := Stp.ext (ls := [[b0_3], [b9], blk a0_20, [b15], [b22], M]) (Ev.drew w33)
        replace hf3_1 := (Ev.drew w33).box hf3_1 nn
        replace hf3_2 := hf3_2.step hst
        replace hb9 := (Ev.drew w33).box hb9 nn
        replace hf7_1 := hf7_1.step hst
        replace hb15 := (Ev.drew w33).box hb15 nn
        replace hf20_1 := hf20_1.step hst (Ev.drew w33) nn2
        replace hb22 := (Ev.drew w33).box hb22 nn
        replace hms := hms.ev (Ev.drew w33)
        replace hev := hev.ext (Ev.drew w33)
        refine x_pure 1 [(62, .pointer (some ⟨b0_3, 0, none⟩))] _ _ _ (by kernel_rfl) ?_
        refine x_fieldAddr (xv := .pointer (some ⟨b22, 0, none⟩)) (.pointer (some ⟨b22, 0, none⟩)) rfl rfl rfl (reads_field tfld30_0 _ _) ?_
        refine x_load (xv := .pointer (some ⟨b22, 0, none⟩)) (.int .i64 x19.1.1) rfl rfl rfl (reads_box tcell3 hb22 ((hms.apart 4 0 rfl rfl rfl) _ (List.mem_singleton.2 rfl)) 0 _ rfl) ?_
        refine x_binop (.int .i64 (IntKind.i64.wrap (1 * 2 ^ (min (Int.toNat (x19.1.1)) IntKind.i64.bits)))) (.int .i64 1) (.int .i64 x19.1.1) rfl rfl rfl rfl (vb_shl (guard_l h)) ?_
        replace h := guard_r h
        refine x_fieldAddr (xv := .pointer (some ⟨b9, 0, none⟩)) (.pointer (some ⟨b9, 0, none⟩)) rfl rfl rfl (reads_field tfld27_0 _ _) ?_
        refine x_load (xv := .pointer (some ⟨b9, 0, none⟩)) (.slice a0_7 (x6.1.1).length c0_7) rfl rfl rfl (reads_box tcell25 hb9 ((hms.apart 1 0 rfl rfl rfl) _ (List.mem_singleton.2 rfl)) 0 _ rfl) ?_
        refine x_pure 1 [(69, .int .i64 x32.1)] _ _ _ (by kernel_rfl) ?_
        obtain ⟨x34, hx34, h⟩ := bind_some h
        obtain ⟨ad34, cs34, hr34, hc34, hR⟩ := reads_index (Mo := [b0_3]) tsl25 hf7_1 hx34
        obtain ⟨_, _, rfl, rfl, ⟨_, _, rfl, rfl, ⟨_, _, rfl, rfl, rfl⟩⟩⟩ := hR
        refine x_indexAddr (xv := .slice a0_7 (x6.1.1).length c0_7) (yv := .int .i64 x32.1) (.pointer (some ad34)) rfl rfl rfl rfl hr34 ?_
        refine x_fieldAddr (xv := .pointer (some ad34)) (.pointer (some (Addr.add ad34 2))) rfl rfl rfl (reads_field tfld39_2 _ _) ?_
        refine x_load (xv := .pointer (some (Addr.add ad34 2))) (.int .i64 x34.2.2.1) rfl rfl rfl (reads_cell tcell3 hc34 (mem_flat 0 rfl) 2 _ rfl) ?_
        refine x_fieldAddr (xv := .pointer (some ⟨b9, 0, none⟩)) (.pointer (some ⟨b9, 1, none⟩)) rfl rfl rfl (reads_field tfld27_1 _ _) ?_
        refine x_load (xv := .pointer (some ⟨b9, 1, none⟩)) (.int .i64 x6.1.2) rfl rfl rfl (reads_box tcell3 hb9 ((hms.apart 1 0 rfl rfl rfl) _ (List.mem_singleton.2 rfl)) 1 _ rfl) ?_
        obtain ⟨x36, hx, h⟩ := bind_some h
        have hpk : MS (w33).drew ([[b0_3]] ++ [[b9], blk a0_20, [b15], [b22], M]) := hms.pick [some 0, some 1, some 2, some 3, some 4, some 5] _ rfl
        have hsb0 : ∀ x ∈ fl ([[b0_3]] ++ [[b9], blk a0_20, [b15], [b22], M]), x ∈ fl [[b0_3], [b9], blk a0_20, [b15], [b22], M] := pick_sub [some 0, some 1, some 2, some 3, some 4, some 5] _ rfl
        have hsb : ∀ x ∈ fl ([[b0_3]] ++ [(fl [[b9], blk a0_20, [b15], [b22], M])]), x ∈ fl [[b0_3], [b9], blk a0_20, [b15], [b22], M] := fun x hx => hsb0 x (fl_unfold x hx)
        have hcall := gen_Maker_Next_w b0_3 a1_3 c1_3 x2.1 x32.2 (IntKind.i64.wrap (1 * 2 ^ (min (Int.toNat (x19.1.1)) IntKind.i64.bits))) _ (w33).drew (fl [[b9], blk a0_20, [b15], [b22], M]) (hpk.fold (P := [[b0_3]])) (hf3_2.sub hsb) hf3_1 hx
        refine x_call 23 #[] #[] [.pointer (some ⟨b0_3, 0, none⟩), .int .i64 (IntKind.i64.wrap (1 * 2 ^ (min (Int.toNat (x19.1.1)) IntKind.i64.bits)))] _ rfl rfl rfl rfl hcall ?_
        rintro v w37 ⟨rfl, he37, hp37_0⟩
        clear hcall hx
        refine ⟨.inr he37, ?_⟩
        have hpk2 : MS (w33).drew ([[b0_3]] ++ [[b9], blk a0_20, [b15], [b22], M]) := hms.pick [some 0, some 1, some 2, some 3, some 4, some 5] _ rfl
        have hsb2 : ∀ x ∈ fl ([[b0_3]] ++ [[b9], blk a0_20, [b15], [b22], M]), x ∈ fl [[b0_3], [b9], blk a0_20, [b15], [b22], M] := pick_sub [some 0, some 1, some 2, some 3, some 4, some 5] _ rfl
        have hst0 := Stp.call (LS := [[b0_3], [b9], blk a0_20, [b15], [b22], M]) (res := []) (par := [[b0_3]]) (R := [[b9], blk a0_20, [b15], [b22], M]) he37 (fun b hb => hsb2 b (fl_left' (P := [[b0_3]]) b hb)) (FR.nil _) (NP.init _ _) (fun x hx => hsb2 x (fl_right' (P := [[b0_3]]) x hx))
        have hsn : ∀ x ∈ fl [[b0_3], [b9], blk a0_20, [b15], [b22], M], x ∈ fl ([] ++ ([[b0_3]] ++ [[b9], blk a0_20, [b15], [b22], M])) := pick_sub [some 0, some 1, some 2, some 3, some 4, some 5] _ rfl
        have hst := hst0.res hsn
        replace hf3_2 := hf3_2.step hst
        replace hb9 := he37.box hb9 ((MS.outs (P := [[b0_3]]) hpk2 0 rfl) _ (List.mem_singleton.2 rfl))
        replace hf7_1 := hf7_1.step hst
        replace hb15 := he37.box hb15 ((MS.outs (P := [[b0_3]]) hpk2 2 rfl) _ (List.mem_singleton.2 rfl))
        replace hf20_1 := hf20_1.step hst he37 (MS.outs (P := [[b0_3]]) hpk2 1 rfl)
        replace hb22 := he37.box hb22 ((MS.outs (P := [[b0_3]]) hpk2 3 rfl) _ (List.mem_singleton.2 rfl))
        replace hc34 := hc34.step hst
        replace hms := hms.ev he37
        have hPf : ∀ b ∈ fl [[b0_3]], w.heap.size ≤ b := FR.mem (ls := [[b0_3]]) (hfr.pick [some 0] _ rfl)
        replace hev := hev.then he37 (fun b hb => .inr (hPf b hb))
        replace hf3_1 := hp37_0
        clear hpk hsb hsb0 hpk2 hsb2 hst0 hsn hst
        obtain ⟨x38, hx, h⟩ := bind_some h
        have hcall := r12_Next_w x36.1 x34.2.2.1 x6.1.2 _ w37 hx
        refine x_call 28 #[] #[] [.int .i64 x36.1, .int .i64 x34.2.2.1, .int .i64 x6.1.2] _ rfl rfl rfl rfl hcall ?_
        rintro v w39 ⟨rfl, he39⟩
        clear hcall hx
        refine ⟨.inr (he39.nil), ?_⟩
        have hst := Stp.ext (ls := [[b0_3], [b9], blk a0_20, [b15], [b22], M]) he39
        replace hf3_1 := he39.box hf3_1 nn
        replace hf3_2 := hf3_2.step hst
        replace hb9 := he39.box hb9 nn
        replace hf7_1 := hf7_1.step hst
        replace hb15 := he39.box hb15 nn
        replace hf20_1 := hf20_1.step hst he39 nn2
        replace hb22 := he39.box hb22 nn
        replace hc34 := hc34.step hst
        replace hms := hms.ev he39
        replace hev := hev.ext he39
        refine x_pure 5 [(61, .tuple #[.int .i64 x38.1, .int .i64 x38.2]), (76, .int .i64 x38.1), (77, .int .i64 x38.2), (9, .int .i64 x38.1), (10, .int .i64 x38.2)] _ _ _ (by kernel_rfl) ?_
        refine x_end rfl (k_then ?_)
        refine c_norm [(4, .pointer (some ⟨b9, 0, none⟩)), (5, .pointer (some ⟨b15, 0, none⟩)), (6, .pointer (some ⟨b22, 0, none⟩)), (8, .int .i64 x32.1), (9, .int .i64 x38.1), (10, .int .i64 x38.2)] ⟨rfl, rfl, rfl, rfl, rfl, rfl, trivial⟩ (fun J => ?_)
        refine c_seq (c_plain ?_)
        refine x_pure 3 [(78, .int .i64 x38.2), (79, .bool (x38.2 == 0)), (80, .bool (x38.2 == 0))] _ _ _ (by kernel_rfl) ?_
        refine x_split 80 (x38.2 == 0) rfl (fun hb => ?_) (fun hb => ?_)
        · replace h := ite_t hb h
          refine x_pure 1 [(81, .int .i64 x38.1)] _ _ _ (by kernel_rfl) ?_
          refine x_fieldAddr (xv := .pointer (some ⟨b22, 0, none⟩)) (.pointer (some ⟨b22, 0, none⟩)) rfl rfl rfl (reads_field tfld30_0 _ _) ?_
          refine x_load (xv := .pointer (some ⟨b22, 0, none⟩)) (.int .i64 x19.1.1) rfl rfl rfl (reads_box tcell3 hb22 nn 0 _ rfl) ?_
          refine x_binop (.int .i64 (IntKind.i64.wrap (1 * 2 ^ (min (Int.toNat (x19.1.1)) IntKind.i64.bits)))) (.int .i64 1) (.int .i64 x19.1.1) rfl rfl rfl rfl (vb_shl (guard_l h)) ?_
          replace h := guard_r h
          refine x_pure 2 [(85, .bool (decide (x38.1 < (IntKind.i64.wrap (1 * 2 ^ (min (Int.toNat (x19.1.1)) IntKind.i64.bits)))))), (86, .bool (decide (x38.1 < (IntKind.i64.wrap (1 * 2 ^ (min (Int.toNat (x19.1.1)) IntKind.i64.bits))))))] _ _ _ (by kernel_rfl) ?_
          refine x_end rfl (k_then ?_)
          refine c_cond (decide (x38.1 < (IntKind.i64.wrap (1 * 2 ^ (min (Int.toNat (x19.1.1)) IntKind.i64.bits))))) rfl (fun hb => ?_) (fun hb => ?_)
          · replace h := ite_t hb h
            refine c_plain ?_
            refine x_fieldAddr (xv := .pointer (some ⟨b15, 0, none⟩)) (.pointer (some ⟨b15, 1, none⟩)) rfl rfl rfl (reads_field tfld30_1 _ _) ?_
            refine x_load (xv := .pointer (some ⟨b15, 1, none⟩)) (.slice a0_20 (x19.1.2).length c0_20) rfl rfl rfl (reads_box tcell22 hb15 nn 1 _ rfl) ?_
            refine x_pure 2 [(89, .int .i64 x32.1), (90, .int .i64 x38.1)] _ _ _ (by kernel_rfl) ?_
            obtain ⟨x40, hx40, h⟩ := bind_some h
            obtain ⟨g40, cs40, ha, hr40, hc40, hR⟩ := own_index (Mo := []) tsl22 hf20_1 hx40
            subst ha
            obtain rfl := hR
            refine x_indexAddr (xv := .slice (some ⟨g40, 0, none⟩) (x19.1.2).length c0_20) (yv := .int .i64 x32.1) (.pointer (some ⟨g40, (Int.toNat x32.1) * (eInt .i64).n, none⟩)) rfl rfl rfl rfl hr40 ?_
            obtain ⟨w42, hr42, he42, ho42⟩ := own_store (y := x38.1) 0 (.int .i64 x38.1) tcell3 hf20_1 (mem_flat 2 rfl _ (List.mem_singleton.2 rfl)) hx40 rfl rfl (fun _ _ _ hR => set_int hR)
            refine x_store w42 (xv := .pointer (some ⟨g40, (Int.toNat x32.1) * (eInt .i64).n, none⟩)) (yv := .int .i64 x38.1) rfl rfl rfl rfl hr42 ?_
            refine ⟨.inl rfl, ?_⟩
            have hst := Stp.ev' (ls := [[b0_3], [b9], blk (some ⟨g40, 0, none⟩), [b15], [b22], M]) he42 (mem_flat 2 rfl)
            replace hf3_1 := he42.box hf3_1 (hms.apart 0 2 rfl rfl rfl _ (List.mem_singleton.2 rfl))
            replace hf3_2 := hf3_2.step hst
            replace hb9 := he42.box hb9 (hms.apart 1 2 rfl rfl rfl _ (List.mem_singleton.2 rfl))
            replace hf7_1 := hf7_1.step hst
            replace hb15 := he42.box hb15 (hms.apart 3 2 rfl rfl rfl _ (List.mem_singleton.2 rfl))
            replace hb22 := he42.box hb22 (hms.apart 4 2 rfl rfl rfl _ (List.mem_singleton.2 rfl))
            replace hms := hms.ev he42
            replace hev := hev.then he42 (fun b hb => .inr (hfr.at 2 rfl b hb))
            replace hf20_1 := ho42
            have hsl : (Value.slice (some ⟨g40, 0, none⟩) (x19.1.2).length c0_20) = (Value.slice (some ⟨g40, 0, none⟩) ((x19.1.2.set (Int.toNat x32.1) x38.1)).length c0_20) := by first | (rw [List.length_set]; done) | simp only [List.length_set]
            rw [hsl] at hb15
            rw [hsl] at hb22
            try rw [hsl]
            clear hsl
            refine x_end rfl ?_
            have hpk : MS w42 [[b9], [b15], M] := hms.pick [some 1, some 3, some 5] _ rfl
            have hsu : ∀ x ∈ fl [[b9], [b15], M], x ∈ fl [[b0_3], [b9], blk (some ⟨g40, 0, none⟩), [b15], [b22], M] := pick_sub [some 1, some 3, some 5] _ rfl
            replace hf7_1 := hf7_1.sub hsu
            replace hf20_1 := hf20_1.ro hsu (pick_out hms 2 rfl [some 1, some 3, some 5] [[b9], [b15], M] rfl rfl)
            replace hms := hpk
            replace hfr : FR w.heap.size [[b9], [b15]] := hfr.pick [some 1, some 3] _ rfl
            clear hpk hsu
            exact k_then ⟨(x19.1.1, (x19.1.2.set (Int.toNat x32.1) x38.1), (some ⟨g40, 0, none⟩), c0_20), ⟨rfl, rfl, trivial⟩, h, hev, hms, hfr, hf7_1, hb9, hf20_1, hb15⟩
          replace h := ite_f hb h
          refine c_skip ?_
          have hpk : MS w39 [[b9], [b15], M] := hms.pick [some 1, some 3, some 5] _ rfl
          have hsu : ∀ x ∈ fl [[b9], [b15], M], x ∈ fl [[b0_3], [b9], blk a0_20, [b15], [b22], M] := pick_sub [some 1, some 3, some 5] _ rfl
          replace hf7_1 := hf7_1.sub hsu
          replace hf20_1 := hf20_1.ro hsu (pick_out hms 2 rfl [some 1, some 3, some 5] [[b9], [b15], M] rfl rfl)
          replace hms := hpk
          replace hfr : FR w.heap.size [[b9], [b15]] := hfr.pick [some 1, some 3] _ rfl
          clear hpk hsu
          exact k_then ⟨(x19.1.1, x19.1.2, a0_20, c0_20), ⟨rfl, rfl, trivial⟩, h, hev, hms, hfr, hf7_1, hb9, hf20_1, hb15⟩
        replace h := ite_f hb h
        refine x_pure 6 [(81, undef), (82, undef), (83, undef), (84, undef), (85, undef), (86, .bool false)] _ _ _ (by kernel_rfl) ?_
        refine x_end rfl (k_then ?_)
        refine c_false rfl ?_
        refine c_skip ?_
        have hpk : MS w39 [[b9], [b15], M] := hms.pick [some 1, some 3, some 5] _ rfl
        have hsu : ∀ x ∈ fl [[b9], [b15], M], x ∈ fl [[b0_3], [b9], blk a0_20, [b15], [b22], M] := pick_sub [some 1, some 3, some 5] _ rfl
        replace hf7_1 := hf7_1.sub hsu
        replace hf20_1 := hf20_1.ro hsu (pick_out hms 2 rfl [some 1, some 3, some 5] [[b9], [b15], M] rfl rfl)
        replace hms := hpk
        replace hfr : FR w.heap.size [[b9], [b15]] := hfr.pick [some 1, some 3] _ rfl
        clear hpk hsu
        exact k_then ⟨(x19.1.1, x19.1.2, a0_20, c0_20), ⟨rfl, rfl, trivial⟩, h, hev, hms, hfr, hf7_1, hb9, hf20_1, hb15⟩
      replace h := ite_f hb h
      refine c_skip ?_
      have hpk : MS wj29 [[b9], [b15], M] := hms.pick [some 1, some 3, some 5] _ rfl
      have hsu : ∀ x ∈ fl [[b9], [b15], M], x ∈ fl [[b0_3], [b9], blk a0_20, [b15], [b22], M] := pick_sub [some 1, some 3, some 5] _ rfl
      replace hf7_1 := hf7_1.sub hsu
      replace hf20_1 := hf20_1.ro hsu (pick_out hms 2 rfl [some 1, some 3, some 5] [[b9], [b15], M] rfl rfl)
      replace hms := hpk
      replace hfr : FR w.heap.size [[b9], [b15]] := hfr.pick [some 1, some 3] _ rfl
      clear hpk hsu
      exact k_then ⟨(x19.1.1, x19.1.2, a0_20, c0_20), ⟨rfl, rfl, trivial⟩, h, hev, hms, hfr, hf7_1, hb9, hf20_1, hb15⟩
    replace h := ite_f hb h
    refine c_skip ?_
    have hpk : MS wj25 [[b9], [b15], M] := hms.pick [some 1, some 2, some 5] _ rfl
    have hsu : ∀ x ∈ fl [[b9], [b15], M], x ∈ fl [[b0_3], [b9], [b15], blk a0_20, [b22], M] := pick_sub [some 1, some 2, some 5] _ rfl
    replace hf7_1 := hf7_1.sub hsu
    replace hf13_1 := hf13_1.sub hsu
    replace hms := hpk
    replace hfr : FR w.heap.size [[b9], [b15]] := hfr.pick [some 1, some 2] _ rfl
    clear hpk hsu
    exact k_then ⟨(x12.1.1, x12.1.2, a0_13, c0_13), ⟨rfl, rfl, trivial⟩, h, hev, hms, hfr, hf7_1, hb9, hf13_1, hb15⟩
  rintro ⟨e16_j18_0, d21_j18, a21_j18, c21_j18⟩ J wj18 ⟨h, hev, hms, hfr, hf7_1, hb9, hj21_j18, hb15⟩
  refine c_seq (c_plain ?_)
  refine x_load (xv := .pointer (some ⟨b9, 0, none⟩)) (.agg #[.slice a0_7 (x6.1.1).length c0_7, .int .i64 x6.1.2]) rfl rfl rfl (reads_boxagg 0 [.slice a0_7 (x6.1.1).length c0_7, .int .i64 x6.1.2] tagg27 hb9 nn rfl) ?_
  refine x_load (xv := .pointer (some ⟨b15, 0, none⟩)) (.agg #[.int .i64 e16_j18_0, .slice a21_j18 (d21_j18).length c21_j18]) rfl rfl rfl (reads_boxagg 0 [.int .i64 e16_j18_0, .slice a21_j18 (d21_j18).length c21_j18] tagg30 hb15 nn rfl) ?_
  obtain ⟨x43, hx, h⟩ := bind_some h
  have hpk : MS wj18 ([] ++ [[b9], [b15], M]) := hms.pick [some 0, some 1, some 2] _ rfl
  have hsb0 : ∀ x ∈ fl ([] ++ [[b9], [b15], M]), x ∈ fl [[b9], [b15], M] := pick_sub [some 0, some 1, some 2] _ rfl
  have hsb : ∀ x ∈ fl ([] ++ [(fl [[b9], [b15], M])]), x ∈ fl [[b9], [b15], M] := fun x hx => hsb0 x (fl_unfold x hx)
  have hcall := rollin_Run_w a0_7 c0_7 x6.1.1 x6.1.2 e16_j18_0 a21_j18 c21_j18 d21_j18 _ wj18 (fl [[b9], [b15], M]) (MS.fold (P := []) hpk) (hf7_1.sub hsb) (hj21_j18.sub hsb) hx
  refine x_call 14 #[] #[] [.agg #[.slice a0_7 (x6.1.1).length c0_7, .int .i64 x6.1.2], .agg #[.int .i64 e16_j18_0, .slice a21_j18 (d21_j18).length c21_j18]] _ rfl rfl rfl rfl hcall ?_
  rintro v w44 ⟨a0_44, c0_44, B2_44, rfl, he44, hmn44, hfn44, hf44_1⟩
  clear hcall hx
  refine ⟨.inl rfl, ?_⟩
  have hpk2 : MS wj18 ([] ++ [[b9], [b15], M]) := hms.pick [some 0, some 1, some 2] _ rfl
  have hsb2 : ∀ x ∈ fl ([] ++ [[b9], [b15], M]), x ∈ fl [[b9], [b15], M] := pick_sub [some 0, some 1, some 2] _ rfl
  have hst0 := Stp.call (LS := [[b9], [b15], M]) (res := [B2_44]) (par := []) (R := [[b9], [b15], M]) he44 (fun b hb => hsb2 b (fl_left' (P := []) b hb)) hfn44 (NP.init _ _) (fun x hx => hsb2 x (fl_right' (P := []) x hx))
  have hsn : ∀ x ∈ fl [B2_44, [b9], [b15], M], x ∈ fl ([B2_44] ++ ([] ++ [[b9], [b15], M])) := pick_sub [some 0, some 1, some 2, some 3] _ rfl
  have hst := hst0.res hsn
  replace hb9 := he44.box hb9 ((MS.outs (P := []) hpk2 0 rfl) _ (List.mem_singleton.2 rfl))
  replace hf7_1 := hf7_1.step hst
  replace hb15 := he44.box hb15 ((MS.outs (P := []) hpk2 1 rfl) _ (List.mem_singleton.2 rfl))
  replace hj21_j18 := hj21_j18.step hst
  replace hms : MS w44 [B2_44, [b9], [b15], M] := (MS.call (P := []) (R := [[b9], [b15], M]) (res := [B2_44]) (par := []) hpk2 he44 hmn44 hfn44 (NP.init _ _)).pick [some 0, some 1, some 2, some 3] _ rfl
  have hfr2 : FR w.heap.size [B2_44, [b9], [b15]] := (FR.cons (fun b hb => Nat.le_trans hev.size (hfn44.at 0 rfl b hb)) (FR.cons (hfr.at 0 rfl) (FR.cons (hfr.at 1 rfl) (FR.nil _))))
  replace hev := hev.ext he44
  replace hfr := hfr2
  clear hfr2
  clear hpk hsb hsb0 hpk2 hsb2 hst0 hsn hst
  have hpk : MS w44 [[b9], [b15], M] := hms.pick [some 1, some 2, some 3] _ rfl
  have hsu : ∀ x ∈ fl [[b9], [b15], M], x ∈ fl [B2_44, [b9], [b15], M] := pick_sub [some 1, some 2, some 3] _ rfl
  replace hf7_1 := hf7_1.sub hsu
  replace hj21_j18 := hj21_j18.sub hsu
  replace hf44_1 := hf44_1.ro (plain_int _) (pick_out hms 0 rfl [some 1, some 2, some 3] [[b9], [b15], M] rfl rfl)
  replace hms := hpk
  replace hfr : FR w.heap.size [[b9], [b15]] := hfr.pick [some 1, some 2] _ rfl
  clear hpk hsu
  refine x_pure 3 [(92, .tuple #[.agg #[.slice a0_44 (x43.1.1).length c0_44, .int .i64 x43.1.2], .int .i64 x43.2]), (96, .agg #[.slice a0_44 (x43.1.1).length c0_44, .int .i64 x43.1.2]), (97, .int .i64 x43.2)] _ _ _ (by kernel_rfl) ?_
  refine x_alloc (z := .agg #[.slice none 0 0, .int .i64 0]) rfl rfl (by kernel_rfl) (fun b46 w46 hq46 hb46 he46 hz46 => ?_)
  replace hb46 : w46.heap[b46]? = some (.cells #[.slice none 0 0, .int .i64 0] 34 (0, 0)) := hb46
  refine ⟨.inl rfl, ?_⟩
  have hst := Stp.box (ls := [[b9], [b15], M]) he46 hq46
  replace hb9 := he46.box hb9 nn
  replace hf7_1 := hf7_1.step hst
  replace hb15 := he46.box hb15 nn
  replace hj21_j18 := hj21_j18.step hst
  replace hf44_1 := hf44_1.step hst
  replace hms := hms.box he46 hq46 hb46
  replace hfr := hfr.box hev.size hq46
  replace hev := hev.ext he46
  obtain ⟨w48, hr48, hb48, he48⟩ := store_boxagg 0 [.slice a0_44 (x43.1.1).length c0_44, .int .i64 x43.1.2] #[.slice a0_44 (x43.1.1).length c0_44, .int .i64 x43.1.2] tagg34 hb46 rfl rfl rfl
  refine x_store w48 (xv := .pointer (some ⟨b46, 0, none⟩)) (yv := .agg #[.slice a0_44 (x43.1.1).length c0_44, .int .i64 x43.1.2]) rfl rfl rfl rfl hr48 ?_
  refine ⟨.inl rfl, ?_⟩
  have hst := Stp.ev' (ls := [[b46], [b9], [b15], M]) he48 (mem_flat 0 rfl)
  replace hb9 := he48.box hb9 (hms.apart 1 0 rfl rfl rfl _ (List.mem_singleton.2 rfl))
  replace hf7_1 := hf7_1.step hst
  replace hb15 := he48.box hb15 (hms.apart 2 0 rfl rfl rfl _ (List.mem_singleton.2 rfl))
  replace hj21_j18 := hj21_j18.step hst
  replace hf44_1 := hf44_1.step hst
  replace hms := hms.ev he48
  replace hev := hev.then he48 (fun b hb => .inr (hfr.at 0 rfl b hb))
  replace hb46 := hb48
  refine x_pure 1 [(12, .int .i64 x43.2)] _ _ _ (by kernel_rfl) ?_
  refine x_end rfl (k_then ?_)
  refine c_norm [(4, .pointer (some ⟨b9, 0, none⟩)), (5, .pointer (some ⟨b15, 0, none⟩)), (11, .pointer (some ⟨b46, 0, none⟩)), (12, .int .i64 x43.2)] ⟨rfl, rfl, rfl, rfl, trivial⟩ (fun J => ?_)
  refine c_seq (c_plain ?_)
  refine x_load (xv := .pointer (some ⟨b9, 0, none⟩)) (.agg #[.slice a0_7 (x6.1.1).length c0_7, .int .i64 x6.1.2]) rfl rfl rfl (reads_boxagg 0 [.slice a0_7 (x6.1.1).length c0_7, .int .i64 x6.1.2] tagg27 hb9 nn rfl) ?_
  refine x_fieldAddr (xv := .pointer (some ⟨b46, 0, none⟩)) (.pointer (some ⟨b46, 0, none⟩)) rfl rfl rfl (reads_field tfld34_0 _ _) ?_
  refine x_load (xv := .pointer (some ⟨b46, 0, none⟩)) (.slice a0_44 (x43.1.1).length c0_44) rfl rfl rfl (reads_box tcell32 hb46 nn 0 _ rfl) ?_
  obtain ⟨x49, hx, h⟩ := bind_some h
  have hpk : MS w48 ([] ++ [[b46], [b9], [b15], M]) := hms.pick [some 0, some 1, some 2, some 3] _ rfl
  have hsb0 : ∀ x ∈ fl ([] ++ [[b46], [b9], [b15], M]), x ∈ fl [[b46], [b9], [b15], M] := pick_sub [some 0, some 1, some 2, some 3] _ rfl
  have hsb : ∀ x ∈ fl ([] ++ [(fl [[b46], [b9], [b15], M])]), x ∈ fl [[b46], [b9], [b15], M] := fun x hx => hsb0 x (fl_unfold x hx)
  have hcall := job_Sorted_w a0_7 c0_7 x6.1.1 x6.1.2 a0_44 c0_44 x43.1.1 _ w48 (fl [[b46], [b9], [b15], M]) (MS.fold (P := []) hpk) (hf7_1.sub hsb) (hf44_1.sub hsb) hx
  refine x_call 29 #[] #[] [.agg #[.slice a0_7 (x6.1.1).length c0_7, .int .i64 x6.1.2], .slice a0_44 (x43.1.1).length c0_44] _ rfl rfl rfl rfl hcall ?_
  rintro v w50 ⟨rfl, he50⟩
  clear hcall hx
  refine ⟨.inl rfl, ?_⟩
  have hst := Stp.ext (ls := [[b46], [b9], [b15], M]) he50
  replace hb9 := he50.box hb9 nn
  replace hf7_1 := hf7_1.step hst
  replace hb15 := he50.box hb15 nn
  replace hj21_j18 := hj21_j18.step hst
  replace hf44_1 := hf44_1.step hst
  replace hb46 := he50.box hb46 nn
  replace hms := hms.ev he50
  replace hev := hev.ext he50
  clear hpk hsb hsb0
  refine x_pure 5 [(98, .tuple #[.bool x49.1, .int .i64 x49.2]), (103, .bool x49.1), (104, .int .i64 x49.2), (13, .bool x49.1), (14, .int .i64 x49.2)] _ _ _ (by kernel_rfl) ?_
  refine x_end rfl (k_then ?_)
  refine c_seq ?_
  refine c_seq (c_plain ?_)
  refine x_pure 3 [(105, .int .i64 x43.2), (106, .bool (x43.2 != 0)), (107, .bool (x43.2 != 0))] _ _ _ (by kernel_rfl) ?_
  refine x_split 107 (x43.2 != 0) rfl (fun hb => ?_) (fun hb => ?_)
  · replace h := ite_t hb h
    refine x_pure 3 [(108, undef), (109, undef), (110, .bool true)] _ _ _ (by kernel_rfl) ?_
    refine x_end rfl (k_then ?_)
    refine c_norm [(4, .pointer (some ⟨b9, 0, none⟩)), (5, .pointer (some ⟨b15, 0, none⟩)), (13, .bool x49.1), (110, .bool true)] ⟨rfl, rfl, rfl, rfl, trivial⟩ (fun J => ?_)
    refine c_true rfl ?_
    refine c_seq (c_plain ?_)
    refine x_pure 1 [(2, .bool false)] _ _ _ (by kernel_rfl) ?_
    refine x_end rfl (k_then ?_)
    refine c_ret ?_
    refine k_then_ret ?_
    refine r_ret (r_vals [.bool false] ⟨rfl, trivial⟩ ?_)
    have hx := some_inj h
    subst hx
    have hmr : MS w50 [M] := hms.pick [some 3] _ rfl
    have hsu : ∀ x ∈ fl [M], x ∈ fl [[b46], [b9], [b15], M] := pick_sub [some 3] _ rfl
    exact ⟨rfl, hev⟩
  replace h := ite_f hb h
  refine x_pure 3 [(108, .int .i64 x49.2), (109, .bool (x49.2 != 0)), (110, .bool (x49.2 != 0))] _ _ _ (by kernel_rfl) ?_
  refine x_end rfl (k_then ?_)
  refine c_norm [(4, .pointer (some ⟨b9, 0, none⟩)), (5, .pointer (some ⟨b15, 0, none⟩)), (13, .bool x49.1), (110, .bool (x49.2 != 0))] ⟨rfl, rfl, rfl, rfl, trivial⟩ (fun J => ?_)
  refine c_cond (x49.2 != 0) rfl (fun hb => ?_) (fun hb => ?_)
  · replace h := ite_t hb h
    refine c_seq (c_plain ?_)
    refine x_pure 1 [(2, .bool false)] _ _ _ (by kernel_rfl) ?_
    refine x_end rfl (k_then ?_)
    refine c_ret ?_
    refine k_then_ret ?_
    refine r_ret (r_vals [.bool false] ⟨rfl, trivial⟩ ?_)
    have hx := some_inj h
    subst hx
    have hmr : MS w50 [M] := hms.pick [some 3] _ rfl
    have hsu : ∀ x ∈ fl [M], x ∈ fl [[b46], [b9], [b15], M] := pick_sub [some 3] _ rfl
    exact ⟨rfl, hev⟩
  replace h := ite_f hb h
  refine c_skip ?_
  refine k_then ?_
  refine c_seq (c_plain ?_)
  refine x_pure 1 [(15, .bool true)] _ _ _ (by kernel_rfl) ?_
  refine x_end rfl (k_then ?_)
  refine c_seq ?_
  refine c_seq (c_plain ?_)
  refine x_fieldAddr (xv := .pointer (some ⟨b15, 0, none⟩)) (.pointer (some ⟨b15, 1, none⟩)) rfl rfl rfl (reads_field tfld30_1 _ _) ?_
  refine x_load (xv := .pointer (some ⟨b15, 1, none⟩)) (.slice a21_j18 (d21_j18).length c21_j18) rfl rfl rfl (reads_box tcell22 hb15 nn 1 _ rfl) ?_
  refine x_len (vs := [.slice a21_j18 (d21_j18).length c21_j18]) (.int .i64 ((d21_j18).length : Int)) rfl rfl rfl (reads_len tsl22 _ _ _ _ _) ?_
  refine x_pure 1 [(114, .int .i64 0)] _ _ _ (by kernel_rfl) ?_
  refine x_end rfl (k_then ?_)
  refine c_block ?_
  have hpk : MS w50 [[b9], [b15], M] := hms.pick [some 1, some 2, some 3] _ rfl
  have hsu : ∀ x ∈ fl [[b9], [b15], M], x ∈ fl [[b46], [b9], [b15], M] := pick_sub [some 1, some 2, some 3] _ rfl
  replace hf7_1 := hf7_1.sub hsu
  replace hj21_j18 := hj21_j18.sub hsu
  replace hms := hpk
  replace hfr : FR w.heap.size [[b9], [b15]] := hfr.pick [some 1, some 2] _ rfl
  clear hpk hsu
  obtain ⟨d53, hd53, h53⟩ := bind_some h
  obtain ⟨m53, hd53⟩ := loop_some hd53
  refine c_loop (loop_rule hmx (σ := Nat × Bool × Int) (fun s => match s with | (_, want_s15_l53, t114__s114_l53) => [(4, .pointer (some ⟨b9, 0, none⟩)), (5, .pointer (some ⟨b15, 0, none⟩)), (13, .bool x49.1), (15, .bool want_s15_l53), (113, .int .i64 ((d21_j18).length : Int)), (114, .int .i64 t114__s114_l53)]) (fun s w' => match s with | (m, want_s15_l53, t114__s114_l53) => loopN (law14_RollinSorts_L53 x6 d21_j18) m (want_s15_l53, t114__s114_l53) = some d53 ∧ Ev [] w w' ∧ MS w' [[b9], [b15], M] ∧ FR w.heap.size [[b9], [b15]] ∧ SlR (eProd (eInt .i64) (eProd (eInt .i64) (eProd (eInt .i64) (eInt .i64)))) w' (fl [[b9], [b15], M]) a0_7 c0_7 x6.1.1 ∧ w'.heap[b9]? = some (.cells #[.slice a0_7 (x6.1.1).length c0_7, .int .i64 x6.1.2] 27 (0, 0)) ∧ SlR (eInt .i64) w' (fl [[b9], [b15], M]) a21_j18 c21_j18 d21_j18 ∧ w'.heap[b15]? = some (.cells #[.int .i64 e16_j18_0, .slice a21_j18 (d21_j18).length c21_j18] 30 (0, 0))) (fun s => s.1) (m53, true, 0) ⟨rfl, rfl, rfl, rfl, rfl, rfl, trivial⟩ ⟨hd53, hev, hms, hfr, hf7_1, hb9, hj21_j18, hb15⟩ ?_)
  rintro ⟨m53, want_s15_l53, t114__s114_l53⟩ J wl53 ⟨hn53, hev, hms, hfr, hf7_1, hb9, hj21_j18, hb15⟩
  rcases m53 with _ | m53
  · exact (loopN_zero hn53).elim
  obtain ⟨t53, h, hn53⟩ := bind_some hn53
  refine c_seq (c_plain ?_)
  refine x_pure 1 [(115, .bool (decide (t114__s114_l53 < ((d21_j18).length : Int))))] _ _ _ (by kernel_rfl) ?_
  refine x_end rfl (k_then ?_)
  refine c_norm [(4, .pointer (some ⟨b9, 0, none⟩)), (5, .pointer (some ⟨b15, 0, none⟩)), (13, .bool x49.1), (15, .bool want_s15_l53), (113, .int .i64 ((d21_j18).length : Int)), (114, .int .i64 t114__s114_l53), (115, .bool (decide (t114__s114_l53 < ((d21_j18).length : Int))))] ⟨rfl, rfl, rfl, rfl, rfl, rfl, rfl, trivial⟩ (fun J => ?_)
  refine c_seq ?_
  refine c_cond (decide (t114__s114_l53 < ((d21_j18).length : Int))) rfl (fun hb => ?_) (fun hb => ?_)
  · replace h := ite_t hb h
    refine c_skip ?_
    refine k_then ?_
    refine c_seq ?_
    refine c_block ?_
    refine c_seq (c_plain ?_)
    refine x_pure 2 [(116, .int .i64 t114__s114_l53), (16, .int .i64 t114__s114_l53)] _ _ _ (by kernel_rfl) ?_
    refine x_end rfl (k_then ?_)
    refine c_seq (c_plain ?_)
    refine x_fieldAddr (xv := .pointer (some ⟨b15, 0, none⟩)) (.pointer (some ⟨b15, 1, none⟩)) rfl rfl rfl (reads_field tfld30_1 _ _) ?_
    refine x_load (xv := .pointer (some ⟨b15, 1, none⟩)) (.slice a21_j18 (d21_j18).length c21_j18) rfl rfl rfl (reads_box tcell22 hb15 nn 1 _ rfl) ?_
    refine x_len (vs := [.slice a21_j18 (d21_j18).length c21_j18]) (.int .i64 ((d21_j18).length : Int)) rfl rfl rfl (reads_len tsl22 _ _ _ _ _) ?_
    refine x_pure 1 [(120, .int .i64 0)] _ _ _ (by kernel_rfl) ?_
    refine x_end rfl (k_then ?_)
    refine c_block ?_
    obtain ⟨d55, hd55, h55⟩ := bind_some h
    obtain ⟨m55, hd55⟩ := loop_some hd55
    refine c_loop (loop_rule hmx (σ := Nat × Bool × Int) (fun s => match s with | (_, want_s15_l55, t120__s120_l55) => [(4, .pointer (some ⟨b9, 0, none⟩)), (5, .pointer (some ⟨b15, 0, none⟩)), (13, .bool x49.1), (15, .bool want_s15_l55), (16, .int .i64 t114__s114_l53), (113, .int .i64 ((d21_j18).length : Int)), (114, .int .i64 t114__s114_l53), (119, .int .i64 ((d21_j18).length : Int)), (120, .int .i64 t120__s120_l55)]) (fun s w' => match s with | (m, want_s15_l55, t120__s120_l55) => loopN (law14_RollinSorts_L55 x6 d21_j18 t114__s114_l53) m (want_s15_l55, t120__s120_l55) = some d55 ∧ Ev [] w w' ∧ MS w' [[b9], [b15], M] ∧ FR w.heap.size [[b9], [b15]] ∧ SlR (eProd (eInt .i64) (eProd (eInt .i64) (eProd (eInt .i64) (eInt .i64)))) w' (fl [[b9], [b15], M]) a0_7 c0_7 x6.1.1 ∧ w'.heap[b9]? = some (.cells #[.slice a0_7 (x6.1.1).length c0_7, .int .i64 x6.1.2] 27 (0, 0)) ∧ SlR (eInt .i64) w' (fl [[b9], [b15], M]) a21_j18 c21_j18 d21_j18 ∧ w'.heap[b15]? = some (.cells #[.int .i64 e16_j18_0, .slice a21_j18 (d21_j18).length c21_j18] 30 (0, 0))) (fun s => s.1) (m55, want_s15_l53, 0) ⟨rfl, rfl, rfl, rfl, rfl, rfl, rfl, rfl, rfl, trivial⟩ ⟨hd55, hev, hms, hfr, hf7_1, hb9, hj21_j18, hb15⟩ ?_)
    rintro ⟨m55, want_s15_l55, t120__s120_l55⟩ J wl55 ⟨hn55, hev, hms, hfr, hf7_1, hb9, hj21_j18, hb15⟩
    rcases m55 with _ | m55
    · exact (loopN_zero hn55).elim
    obtain ⟨t55, h, hn55⟩ := bind_some hn55
    refine c_seq (c_plain ?_)
    refine x_pure 1 [(121, .bool (decide (t120__s120_l55 < ((d21_j18).length : Int))))] _ _ _ (by kernel_rfl) ?_
    refine x_end rfl (k_then ?_)
    refine c_norm [(4, .pointer (some ⟨b9, 0, none⟩)), (5, .pointer (some ⟨b15, 0, none⟩)), (13, .bool x49.1), (15, .bool want_s15_l55), (16, .int .i64 t114__s114_l53), (113, .int .i64 ((d21_j18).length : Int)), (114, .int .i64 t114__s114_l53), (119, .int .i64 ((d21_j18).length : Int)), (120, .int .i64 t120__s120_l55), (121, .bool (decide (t120__s120_l55 < ((d21_j18).length : Int))))] ⟨rfl, rfl, rfl, rfl, rfl, rfl, rfl, rfl, rfl, rfl, trivial⟩ (fun J => ?_)
    refine c_seq ?_
    refine c_cond (decide (t120__s120_l55 < ((d21_j18).length : Int))) rfl (fun hb => ?_) (fun hb => ?_)
    · replace h := ite_t hb h
      refine c_skip ?_
      refine k_then ?_
      refine c_seq ?_
      refine c_block ?_
      refine c_seq (c_plain ?_)
      refine x_pure 2 [(122, .int .i64 t120__s120_l55), (17, .int .i64 t120__s120_l55)] _ _ _ (by kernel_rfl) ?_
      refine x_end rfl (k_then ?_)
      refine c_drawn [] [(0, false), (1, false), (2, false), (3, false), (4, false), (5, false), (6, false), (7, false), (8, false), (9, false), (10, false), (11, false), (12, false), (13, false), (14, false), (15, false), (18, false), (19, false), (20, false), (21, false), (22, false), (16, false), (17, false), (23, false), (24, false), (25, false), (26, false)] _ (by kernel_rfl) rfl ?_
      have hst := Stp.ext (ls := [[b9], [b15], M]) (Ev.drew wl55)
      replace hb9 := (Ev.drew wl55).box hb9 nn
      replace hf7_1 := hf7_1.step hst
      replace hb15 := (Ev.drew wl55).box hb15 nn
      replace hj21_j18 := hj21_j18.step hst
      replace hms := hms.ev (Ev.drew wl55)
      replace hev := hev.ext (Ev.drew wl55)
      refine x_pure 2 [(123, .bool want_s15_l55), (124, .bool want_s15_l55)] _ _ _ (by kernel_rfl) ?_
      refine x_split 124 want_s15_l55 rfl (fun hb => ?_) (fun hb => ?_)
      · replace h := ite_t hb h
        refine x_load (xv := .pointer (some ⟨b9, 0, none⟩)) (.agg #[.slice a0_7 (x6.1.1).length c0_7, .int .i64 x6.1.2]) rfl rfl rfl (reads_boxagg 0 [.slice a0_7 (x6.1.1).length c0_7, .int .i64 x6.1.2] tagg27 hb9 nn rfl) ?_
        refine x_pure 2 [(126, .int .i64 t114__s114_l53), (127, .int .i64 t120__s120_l55)] _ _ _ (by kernel_rfl) ?_
        obtain ⟨x57, hx, h⟩ := bind_some h
        have hpk : MS (wl55).drew ([] ++ [[b9], [b15], M]) := hms.pick [some 0, some 1, some 2] _ rfl
        have hsb0 : ∀ x ∈ fl ([] ++ [[b9], [b15], M]), x ∈ fl [[b9], [b15], M] := pick_sub [some 0, some 1, some 2] _ rfl
        have hsb : ∀ x ∈ fl ([] ++ [(fl [[b9], [b15], M])]), x ∈ fl [[b9], [b15], M] := fun x hx => hsb0 x (fl_unfold x hx)
        have hcall := r11_Kind_w a0_7 c0_7 x6.1.1 x6.1.2 t114__s114_l53 t120__s120_l55 _ (wl55).drew (fl [[b9], [b15], M]) (MS.fold (P := []) hpk) (hf7_1.sub hsb) hx
        refine x_call 30 #[] #[] [.agg #[.slice a0_7 (x6.1.1).length c0_7, .int .i64 x6.1.2], .int .i64 t114__s114_l53, .int .i64 t120__s120_l55] _ rfl rfl rfl rfl hcall ?_
        rintro v w58 ⟨rfl, he58⟩
        clear hcall hx
        refine ⟨.inr he58, ?_⟩
        have hst := Stp.ext (ls := [[b9], [b15], M]) he58
        replace hb9 := he58.box hb9 nn
        replace hf7_1 := hf7_1.step hst
        replace hb15 := he58.box hb15 nn
        replace hj21_j18 := hj21_j18.step hst
        replace hms := hms.ev he58
        replace hev := hev.ext he58
        clear hpk hsb hsb0
        refine x_pure 2 [(129, .bool (x57 == 0)), (130, .bool (x57 == 0))] _ _ _ (by kernel_rfl) ?_
        refine x_split 130 (x57 == 0) rfl (fun hb => ?_) (fun hb => ?_)
        · replace h := ite_t hb h
          refine x_pure 19 [(131, undef), (132, undef), (133, undef), (134, undef), (135, undef), (136, undef), (137, undef), (138, undef), (141, undef), (142, undef), (143, undef), (144, undef), (145, undef), (139, undef), (140, undef), (146, undef), (147, .bool true), (148, .bool true), (15, .bool true)] _ _ _ (by kernel_rfl) ?_
          refine x_end rfl ?_
          refine k_block ?_
          refine k_then ?_
          refine c_norm [(4, .pointer (some ⟨b9, 0, none⟩)), (5, .pointer (some ⟨b15, 0, none⟩)), (13, .bool x49.1), (15, .bool true), (16, .int .i64 t114__s114_l53), (113, .int .i64 ((d21_j18).length : Int)), (114, .int .i64 t114__s114_l53), (119, .int .i64 ((d21_j18).length : Int)), (120, .int .i64 t120__s120_l55)] ⟨rfl, rfl, rfl, rfl, rfl, rfl, rfl, rfl, rfl, trivial⟩ (fun J => ?_)
          refine c_plain ?_
          refine x_pure 2 [(149, .int .i64 (IntKind.i64.wrap (t120__s120_l55 + 1))), (120, .int .i64 (IntKind.i64.wrap (t120__s120_l55 + 1)))] _ _ _ (by kernel_rfl) ?_
          refine x_end rfl ?_
          have hx := some_inj h
          subst hx
          exact k_then ⟨(m55, true, IntKind.i64.wrap (t120__s120_l55 + 1)), ⟨rfl, rfl, rfl, rfl, rfl, rfl, rfl, rfl, rfl, trivial⟩, ⟨hn55, hev, hms, hfr, hf7_1, hb9, hj21_j18, hb15⟩, Nat.lt_succ_self _⟩
        replace h := ite_f hb h
        refine x_fieldAddr (xv := .pointer (some ⟨b15, 0, none⟩)) (.pointer (some ⟨b15, 1, none⟩)) rfl rfl rfl (reads_field tfld30_1 _ _) ?_
        refine x_load (xv := .pointer (some ⟨b15, 1, none⟩)) (.slice a21_j18 (d21_j18).length c21_j18) rfl rfl rfl (reads_box tcell22 hb15 nn 1 _ rfl) ?_
        refine x_pure 1 [(133, .int .i64 t114__s114_l53)] _ _ _ (by kernel_rfl) ?_
        obtain ⟨x59, hx59, h⟩ := bind_some h
        obtain ⟨ad59, cs59, hr59, hc59, hR⟩ := reads_index (Mo := []) tsl22 hj21_j18 hx59
        obtain rfl := hR
        refine x_indexAddr (xv := .slice a21_j18 (d21_j18).length c21_j18) (yv := .int .i64 t114__s114_l53) (.pointer (some ad59)) rfl rfl rfl rfl hr59 ?_
        refine x_load (xv := .pointer (some ad59)) (.int .i64 x59) rfl rfl rfl (reads_cell0 tcell3 hc59 (fun _ h => by cases h)) ?_
        refine x_load (xv := .pointer (some ⟨b9, 0, none⟩)) (.agg #[.slice a0_7 (x6.1.1).length c0_7, .int .i64 x6.1.2]) rfl rfl rfl (reads_boxagg 0 [.slice a0_7 (x6.1.1).length c0_7, .int .i64 x6.1.2] tagg27 hb9 nn rfl) ?_
        refine x_pure 2 [(137, .int .i64 t114__s114_l53), (138, .int .i64 t120__s120_l55)] _ _ _ (by kernel_rfl) ?_
        refine x_fieldAddr (xv := .pointer (some ⟨b15, 0, none⟩)) (.pointer (some ⟨b15, 1, none⟩)) rfl rfl rfl (reads_field tfld30_1 _ _) ?_
        refine x_load (xv := .pointer (some ⟨b15, 1, none⟩)) (.slice a21_j18 (d21_j18).length c21_j18) rfl rfl rfl (reads_box tcell22 hb15 nn 1 _ rfl) ?_
        refine x_pure 1 [(143, .int .i64 t120__s120_l55)] _ _ _ (by kernel_rfl) ?_
        obtain ⟨x61, hx61, h⟩ := bind_some h
        obtain ⟨ad61, cs61, hr61, hc61, hR⟩ := reads_index (Mo := []) tsl22 hj21_j18 hx61
        obtain rfl := hR
        refine x_indexAddr (xv := .slice a21_j18 (d21_j18).length c21_j18) (yv := .int .i64 t120__s120_l55) (.pointer (some ad61)) rfl rfl rfl rfl hr61 ?_
        refine x_load (xv := .pointer (some ad61)) (.int .i64 x61) rfl rfl rfl (reads_cell0 tcell3 hc61 (fun _ h => by cases h)) ?_
        obtain ⟨x63, hx, h⟩ := bind_some h
        have hpk : MS w58 ([] ++ [[b9], [b15], M]) := hms.pick [some 0, some 1, some 2] _ rfl
        have hsb0 : ∀ x ∈ fl ([] ++ [[b9], [b15], M]), x ∈ fl [[b9], [b15], M] := pick_sub [some 0, some 1, some 2] _ rfl
        have hsb : ∀ x ∈ fl ([] ++ [(fl [[b9], [b15], M])]), x ∈ fl [[b9], [b15], M] := fun x hx => hsb0 x (fl_unfold x hx)
        have hcall := r11_Strict_w a0_7 c0_7 x6.1.1 x6.1.2 t114__s114_l53 t120__s120_l55 _ w58 (fl [[b9], [b15], M]) (MS.fold (P := []) hpk) (hf7_1.sub hsb) hx
        refine x_call 31 #[] #[] [.agg #[.slice a0_7 (x6.1.1).length c0_7, .int .i64 x6.1.2], .int .i64 t114__s114_l53, .int .i64 t120__s120_l55] _ rfl rfl rfl rfl hcall ?_
        rintro v w64 ⟨rfl, he64⟩
        clear hcall hx
        refine ⟨.inr he64, ?_⟩
        have hst := Stp.ext (ls := [[b9], [b15], M]) he64
        replace hb9 := he64.box hb9 nn
        replace hf7_1 := hf7_1.step hst
        replace hb15 := he64.box hb15 nn
        replace hj21_j18 := hj21_j18.step hst
        replace hc59 := hc59.step hst
        replace hc61 := hc61.step hst
        replace hms := hms.ev he64
        replace hev := hev.ext he64
        clear hpk hsb hsb0
        refine x_pure 5 [(140, .int .i64 (IntKind.i64.wrap (x59 + x63))), (146, .bool (decide ((IntKind.i64.wrap (x59 + x63)) ≤ x61))), (147, .bool (decide ((IntKind.i64.wrap (x59 + x63)) ≤ x61))), (148, .bool (decide ((IntKind.i64.wrap (x59 + x63)) ≤ x61))), (15, .bool (decide ((IntKind.i64.wrap (x59 + x63)) ≤ x61)))] _ _ _ (by kernel_rfl) ?_
        refine x_end rfl ?_
        refine k_block ?_
        refine k_then ?_
        refine c_norm [(4, .pointer (some ⟨b9, 0, none⟩)), (5, .pointer (some ⟨b15, 0, none⟩)), (13, .bool x49.1), (15, .bool (decide ((IntKind.i64.wrap (x59 + x63)) ≤ x61))), (16, .int .i64 t114__s114_l53), (113, .int .i64 ((d21_j18).length : Int)), (114, .int .i64 t114__s114_l53), (119, .int .i64 ((d21_j18).length : Int)), (120, .int .i64 t120__s120_l55)] ⟨rfl, rfl, rfl, rfl, rfl, rfl, rfl, rfl, rfl, trivial⟩ (fun J => ?_)
        refine c_plain ?_
        refine x_pure 2 [(149, .int .i64 (IntKind.i64.wrap (t120__s120_l55 + 1))), (120, .int .i64 (IntKind.i64.wrap (t120__s120_l55 + 1)))] _ _ _ (by kernel_rfl) ?_
        refine x_end rfl ?_
        have hx := some_inj h
        subst hx
        exact k_then ⟨(m55, decide ((IntKind.i64.wrap (x59 + x63)) ≤ x61), IntKind.i64.wrap (t120__s120_l55 + 1)), ⟨rfl, rfl, rfl, rfl, rfl, rfl, rfl, rfl, rfl, trivial⟩, ⟨hn55, hev, hms, hfr, hf7_1, hb9, hj21_j18, hb15⟩, Nat.lt_succ_self _⟩
      replace h := ite_f hb h
      refine x_pure 25 [(125, undef), (126, undef), (127, undef), (128, undef), (129, undef), (130, undef), (131, undef), (132, undef), (133, undef), (134, undef), (135, undef), (136, undef), (137, undef), (138, undef), (141, undef), (142, undef), (143, undef), (144, undef), (145, undef), (139, undef), (140, undef), (146, undef), (147, undef), (148, .bool false), (15, .bool false)] _ _ _ (by kernel_rfl) ?_
      refine x_end rfl ?_
      refine k_block ?_
      refine k_then ?_
      refine c_norm [(4, .pointer (some ⟨b9, 0, none⟩)), (5, .pointer (some ⟨b15, 0, none⟩)), (13, .bool x49.1), (15, .bool false), (16, .int .i64 t114__s114_l53), (113, .int .i64 ((d21_j18).length : Int)), (114, .int .i64 t114__s114_l53), (119, .int .i64 ((d21_j18).length : Int)), (120, .int .i64 t120__s120_l55)] ⟨rfl, rfl, rfl, rfl, rfl, rfl, rfl, rfl, rfl, trivial⟩ (fun J => ?_)
      refine c_plain ?_
      refine x_pure 2 [(149, .int .i64 (IntKind.i64.wrap (t120__s120_l55 + 1))), (120, .int .i64 (IntKind.i64.wrap (t120__s120_l55 + 1)))] _ _ _ (by kernel_rfl) ?_
      refine x_end rfl ?_
      have hx := some_inj h
      subst hx
      exact k_then ⟨(m55, false, IntKind.i64.wrap (t120__s120_l55 + 1)), ⟨rfl, rfl, rfl, rfl, rfl, rfl, rfl, rfl, rfl, trivial⟩, ⟨hn55, hev, hms, hfr, hf7_1, hb9, hj21_j18, hb15⟩, Nat.lt_succ_self _⟩
    replace h := ite_f hb h
    refine c_exit ?_
    refine k_then_exit ?_
    have hx := some_inj h
    subst hx
    have hy := some_inj hn55
    subst hy
    replace h := h55
    refine k_then_exit ?_
    refine k_block_in ?_
    refine k_block ?_
    refine k_then ?_
    refine c_norm [(4, .pointer (some ⟨b9, 0, none⟩)), (5, .pointer (some ⟨b15, 0, none⟩)), (13, .bool x49.1), (15, .bool want_s15_l55), (113, .int .i64 ((d21_j18).length : Int)), (114, .int .i64 t114__s114_l53)] ⟨rfl, rfl, rfl, rfl, rfl, rfl, trivial⟩ (fun J => ?_)
    refine c_plain ?_
    refine x_pure 2 [(150, .int .i64 (IntKind.i64.wrap (t114__s114_l53 + 1))), (114, .int .i64 (IntKind.i64.wrap (t114__s114_l53 + 1)))] _ _ _ (by kernel_rfl) ?_
    refine x_end rfl ?_
    have hx := some_inj h
    subst hx
    exact k_then ⟨(m53, want_s15_l55, IntKind.i64.wrap (t114__s114_l53 + 1)), ⟨rfl, rfl, rfl, rfl, rfl, rfl, trivial⟩, ⟨hn53, hev, hms, hfr, hf7_1, hb9, hj21_j18, hb15⟩, Nat.lt_succ_self _⟩
  replace h := ite_f hb h
  refine c_exit ?_
  refine k_then_exit ?_
  have hx := some_inj h
  subst hx
  have hy := some_inj hn53
  subst hy
  replace h := h53
  refine k_then_exit ?_
  refine k_block_in ?_
  refine k_then ?_
  refine c_norm [(13, .bool x49.1), (15, .bool want_s15_l53)] ⟨rfl, rfl, trivial⟩ (fun J => ?_)
  refine c_seq (c_plain ?_)
  refine x_pure 2 [(151, .bool x49.1), (152, .bool want_s15_l53)] _ _ _ (by kernel_rfl) ?_
  refine x_binop (.bool (x49.1 == want_s15_l53)) (.bool x49.1) (.bool want_s15_l53) rfl rfl rfl rfl (vb_booleql tbool4) ?_
  refine x_pure 1 [(154, .bool (x49.1 == want_s15_l53))] _ _ _ (by kernel_rfl) ?_
  refine x_split 154 (x49.1 == want_s15_l53) rfl (fun hb => ?_) (fun hb => ?_)
  · replace h := ite_t hb h
    obtain ⟨x65, hx, h⟩ := bind_some h
    have hcall := law14_sane_w _ wl53 hx
    refine x_call 15 #[] #[] [] _ rfl rfl rfl rfl hcall ?_
    rintro v w66 ⟨rfl, he66⟩
    clear hcall hx
    refine ⟨.inl rfl, ?_⟩
    have hst := Stp.ext (ls := [[b9], [b15], M]) he66
    replace hb9 := he66.box hb9 nn
    replace hf7_1 := hf7_1.step hst
    replace hb15 := he66.box hb15 nn
    replace hj21_j18 := hj21_j18.step hst
    replace hms := hms.ev he66
    replace hev := hev.ext he66
    refine x_pure 2 [(156, .bool x65), (2, .bool x65)] _ _ _ (by kernel_rfl) ?_
    refine x_end rfl (k_then ?_)
    refine c_ret ?_
    refine r_ret (r_vals [.bool x65] ⟨rfl, trivial⟩ ?_)
    have hx := some_inj h
    subst hx
    have hmr : MS w66 [M] := hms.pick [some 2] _ rfl
    have hsu : ∀ x ∈ fl [M], x ∈ fl [[b9], [b15], M] := pick_sub [some 2] _ rfl
    exact ⟨rfl, hev⟩
  replace h := ite_f hb h
  refine x_pure 3 [(155, undef), (156, .bool false), (2, .bool false)] _ _ _ (by kernel_rfl) ?_
  refine x_end rfl (k_then ?_)
  refine c_ret ?_
  refine r_ret (r_vals [.bool false] ⟨rfl, trivial⟩ ?_)
  have hx := some_inj h
  subst hx
  have hmr : MS wl53 [M] := hms.pick [some 2] _ rfl
  have hsu : ∀ x ∈ fl [M], x ∈ fl [[b9], [b15], M] := pick_sub [some 2] _ rfl
  exact ⟨rfl, hev⟩
end Go.Proofs.Ytmjobkpgnhbcbaa
