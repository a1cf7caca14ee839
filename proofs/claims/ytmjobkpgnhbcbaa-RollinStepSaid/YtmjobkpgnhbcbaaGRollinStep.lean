/- Walks, printed by program: each function returns what the partial function of the same name returns. Conditions: those of each theorem. -/
import Derived.Test.YtmjobkpgnhbcbaaGT
import Derived.Test.YtmjobkpgnhbcbaaGgen
import Derived.Test.YtmjobkpgnhbcbaaGlaw14plan
import Derived.Test.YtmjobkpgnhbcbaaGlaw14sane
import Derived.Test.YtmjobkpgnhbcbaaGr12
import Derived.Test.YtmjobkpgnhbcbaaGrollin
set_option linter.unusedVariables false
set_option linter.unusedSimpArgs false
set_option maxRecDepth 4000
namespace Go.Proofs.Ytmjobkpgnhbcbaa
open Go Go.V Go.Proofs
def law14_RollinStep_L68 (p1 : Int) (x12 : (Int × (List Int)) × Int) (x63 : (List Int) × Int) (s : Int × Int) : Option (Step (Int × Int) Int) :=
match s with
| (to_s21_l68, i_s22_l68) =>
(if (decide (i_s22_l68 ≥ 0)) = true then
((idx x63.1 i_s22_l68).bind fun x70 =>
(if (decide (x70 ≥ (IntKind.i64.wrap (1 + (Int.tmod (IntKind.i64.wrap ((Int.tmod p1 x12.1.1) + x12.1.1)) x12.1.1))))) = true then
((idx x63.1 i_s22_l68).bind fun x72 =>
some (.next (x72, IntKind.i64.wrap (i_s22_l68 - 1))))
else
some (.next (to_s21_l68, IntKind.i64.wrap (i_s22_l68 - 1)))))
else
some (.done to_s21_l68))

def law14_RollinStep_L52 (p1 : Int) (x6 : ((List (Int × Int × Int × Int)) × Int) × Int) (x12 : (Int × (List Int)) × Int) (d31_x36 : List Int) (s : (List (List Int)) × (List (List Int)) × Int) : Option (Step ((List (List Int)) × (List (List Int)) × Int) (Unit ⊕ ((List (List Int)) × (List (List Int))))) :=
match s with
| (d23_l52, d24_l52, t112__s112_l52) =>
(if (decide (t112__s112_l52 < ((d31_x36).length : Int))) = true then
((idx d31_x36 t112__s112_l52).bind fun x54 =>
(if (decide (x54 < 0)) = true then
some (.done (.inl ()))
else
(if (decide (x54 ≥ ((x6.1.1).length : Int))) = true then
some (.done (.inl ()))
else
((idx x6.1.1 x54).bind fun x57 =>
(if (decide (x57.1 ≥ ((d24_l52).length : Int))) = true then
some (.done (.inl ()))
else
((idx x12.1.2 x54).bind fun x59 =>
((idx x6.1.1 x54).bind fun x61 =>
((r12_Real x59 x61.2.2.1).bind fun x63 =>
(if (x63.2 != 0) = true then
some (.done (.inl ()))
else
((loop (law14_RollinStep_L68 p1 x12 x63) ((-1), IntKind.i64.wrap (((x63.1).length : Int) - 1))).bind fun d => match d with
| to_s21_x68 => (if (decide (to_s21_x68 < 0)) = true then
((idx x6.1.1 x54).bind fun x75 =>
((idx x6.1.1 x54).bind fun x77 =>
((idx d24_l52 x77.1).bind fun x79 =>
(if ([] : List Int).length + x79.length ≤ 4294967296 then
(if (([] : List Int) ++ x79).length + ([x54]).length ≤ 4294967296 then
((idx d24_l52 x75.1).bind fun x87 =>
some (.next (d23_l52, (d24_l52.set (Int.toNat x75.1) ((([] : List Int) ++ x79) ++ [x54])), IntKind.i64.wrap (t112__s112_l52 + 1))))
else none)
else none))))
else
(if (decide (to_s21_x68 ≥ ((d23_l52).length : Int))) = true then
some (.done (.inl ()))
else
((idx d23_l52 to_s21_x68).bind fun x84 =>
(if ([] : List Int).length + x84.length ≤ 4294967296 then
(if (([] : List Int) ++ x84).length + ([x54]).length ≤ 4294967296 then
((idx d23_l52 to_s21_x68).bind fun x90 =>
some (.next ((d23_l52.set (Int.toNat to_s21_x68) ((([] : List Int) ++ x84) ++ [x54])), d24_l52, IntKind.i64.wrap (t112__s112_l52 + 1))))
else none)
else none))))))))))))))
else
some (.done (.inr (d23_l52, d24_l52))))

def law14_RollinStep_L36 (p1 : Int) (x6 : ((List (Int × Int × Int × Int)) × Int) × Int) (x12 : (Int × (List Int)) × Int) (s : (List Int) × Int) : Option (Step ((List Int) × Int) (List Int)) :=
match s with
| (d31_l36, t92__s92_l36) =>
(if (decide (t92__s92_l36 < ((x6.1.1).length : Int))) = true then
((idx x6.1.1 t92__s92_l36).bind fun x38 =>
(if (x38.2.2.1 == (IntKind.i64.wrap (1 + (Int.tmod (IntKind.i64.wrap ((Int.tmod p1 x12.1.1) + x12.1.1)) x12.1.1)))) = true then
(if d31_l36.length + ([t92__s92_l36]).length ≤ 4294967296 then
some (.next ((d31_l36 ++ [t92__s92_l36]), IntKind.i64.wrap (t92__s92_l36 + 1)))
else none)
else
some (.next (d31_l36, IntKind.i64.wrap (t92__s92_l36 + 1)))))
else
some (.done d31_l36))

def law14_RollinStep (p0 : List Int) (p1 : Int) : Option Bool :=
((gen_New p0).bind fun x2 =>
((gen_Maker_Job x2.1 x2.2 14).bind fun x6 =>
((law14_plan x2.1 x6.2 x6.1.1 x6.1.2).bind fun x12 =>
(if (x12.1.1 == 0) = true then
((law14_sane).bind fun x19 =>
some x19)
else
(if x12.1.1 ≠ 0 then
(if x12.1.1 ≠ 0 then
((rollin_Contents x6.1.1 x6.1.2 x12.1.1 x12.1.2 (IntKind.i64.wrap ((IntKind.i64.wrap (1 + (Int.tmod (IntKind.i64.wrap ((Int.tmod p1 x12.1.1) + x12.1.1)) x12.1.1))) - 1))).bind fun x21 =>
((rollin_Contents x6.1.1 x6.1.2 x12.1.1 x12.1.2 (IntKind.i64.wrap (1 + (Int.tmod (IntKind.i64.wrap ((Int.tmod p1 x12.1.1) + x12.1.1)) x12.1.1)))).bind fun x25 =>
(if (x21.2.2 != 0) = true then
some false
else
(if (x25.2.2 != 0) = true then
some false
else
(if (((x21.1).length : Int) != x12.1.1) = true then
some false
else
(if (((x21.2.1).length : Int) != ((x25.2.1).length : Int)) = true then
some false
else
((idx x21.1 (IntKind.i64.wrap ((IntKind.i64.wrap (1 + (Int.tmod (IntKind.i64.wrap ((Int.tmod p1 x12.1.1) + x12.1.1)) x12.1.1))) - 1))).bind fun x32 =>
(if ([] : List Int).length + x32.length ≤ 4294967296 then
((loop (law14_RollinStep_L36 p1 x6 x12) ((([] : List Int) ++ x32), 0)).bind fun d => match d with
| d31_x36 => ((idx x21.1 (IntKind.i64.wrap ((IntKind.i64.wrap (1 + (Int.tmod (IntKind.i64.wrap ((Int.tmod p1 x12.1.1) + x12.1.1)) x12.1.1))) - 1))).bind fun x46 =>
((loop (law14_RollinStep_L52 p1 x6 x12 d31_x36) ((x21.1.set (Int.toNat (IntKind.i64.wrap ((IntKind.i64.wrap (1 + (Int.tmod (IntKind.i64.wrap ((Int.tmod p1 x12.1.1) + x12.1.1)) x12.1.1))) - 1))) ([] : List Int)), x21.2.1, 0)).bind fun d => match d with
| (.inl _) => some false
| (.inr (d23_x5201, d24_x5201)) => ((gen_Lists d23_x5201 x25.1).bind fun x95 =>
(if x95 = true then
((gen_Lists d24_x5201 x25.2.1).bind fun x97 =>
(if x97 = true then
((law14_sane).bind fun x99 =>
some x99)
else
some false))
else
some false)))))
else none))))))))
else none)
else none)))))

theorem law14_RollinStep_w (a_p0 : Option Addr) (c_p0 : Nat) (p0 : List Int) (p1 : Int) (r : Bool) (w : World) (M : List Nat) (hms : MS w [M]) (hs_p0 : SlR (eInt .i64) w (fl [M]) a_p0 c_p0 p0) (h : law14_RollinStep p0 p1 = some r) : CallVC Try.prog 6 [.slice a_p0 (p0).length c_p0, .int .i64 p1] w fun v w' => v = .bool r ∧ Ev [] w w' := by
  refine calls_vc hmx Try.func6 (by kernel_rfl) rfl (rs := [.tmp 4]) rfl (by kernel_rfl) (args := [.slice a_p0 (p0).length c_p0, .int .i64 p1]) rfl ?_
  have hev : Ev [] w w := Ev.refl _ _
  have hfr : FR w.heap.size [] := FR.nil _
  refine c_seq (c_plain ?_)
  refine x_pure 1 [(4, .bool false)] _ _ _ (by kernel_rfl) ?_
  refine x_end rfl (k_then ?_)
  refine c_seq (c_plain ?_)
  refine x_pure 1 [(23, .slice a_p0 (p0).length c_p0)] _ _ _ (by kernel_rfl) ?_
  obtain ⟨x2, hx, h⟩ := bind_some h
  have hpk : MS w ([] ++ [M]) := hms.pick [some 0] _ rfl
  have hsb0 : ∀ x ∈ fl ([] ++ [M]), x ∈ fl [M] := pick_sub [some 0] _ rfl
  have hsb : ∀ x ∈ fl ([] ++ [(fl [M])]), x ∈ fl [M] := fun x hx => hsb0 x (fl_unfold x hx)
  have hcall := gen_New_w a_p0 c_p0 p0 _ w (fl [M]) (MS.fold (P := []) hpk) (hs_p0.sub hsb) hx
  refine x_call 11 #[] #[] [.slice a_p0 (p0).length c_p0] _ rfl rfl rfl rfl hcall ?_
  rintro v w3 ⟨b0_3, a1_3, c1_3, rfl, he3, hmn3, hfn3, hf3_1, hf3_2⟩
  clear hcall hx
  refine ⟨.inl rfl, ?_⟩
  have hpk2 : MS w ([] ++ [M]) := hms.pick [some 0] _ rfl
  have hsb2 : ∀ x ∈ fl ([] ++ [M]), x ∈ fl [M] := pick_sub [some 0] _ rfl
  have hst0 := Stp.call (LS := [M]) (res := [[b0_3]]) (par := []) (R := [M]) he3 (fun b hb => hsb2 b (fl_left' (P := []) b hb)) hfn3 (NP.init _ _) (fun x hx => hsb2 x (fl_right' (P := []) x hx))
  have hsn : ∀ x ∈ fl [[b0_3], M], x ∈ fl ([[b0_3]] ++ ([] ++ [M])) := pick_sub [some 0, some 1] _ rfl
  have hst := hst0.res hsn
  replace hs_p0 := hs_p0.step hst
  replace hms : MS w3 [[b0_3], M] := (MS.call (P := []) (R := [M]) (res := [[b0_3]]) (par := []) hpk2 he3 hmn3 hfn3 (NP.init _ _)).pick [some 0, some 1] _ rfl
  have hfr2 : FR w.heap.size [[b0_3]] := (FR.cons (fun b hb => Nat.le_trans hev.size (hfn3.at 0 rfl b hb)) (FR.nil _))
  replace hev := hev.ext he3
  replace hfr := hfr2
  clear hfr2
  have hsp : ∀ x ∈ fl [[b0_3], M], x ∈ fl ([[b0_3]] ++ ([] ++ [(fl [M])])) := fun x hx => fl_tot (res := [[b0_3]]) (par := []) (R := [M]) x (hsn x hx)
  replace hf3_2 := hf3_2.sub hsp
  clear hpk hsb hsb0 hpk2 hsb2 hst0 hsn hst
  refine x_pure 1 [(5, .pointer (some ⟨b0_3, 0, none⟩))] _ _ _ (by kernel_rfl) ?_
  refine x_end rfl (k_then ?_)
  refine c_seq (c_plain ?_)
  refine x_pure 1 [(25, .pointer (some ⟨b0_3, 0, none⟩))] _ _ _ (by kernel_rfl) ?_
  obtain ⟨x6, hx, h⟩ := bind_some h
  have hpk : MS w3 ([[b0_3]] ++ [M]) := hms.pick [some 0, some 1] _ rfl
  have hsb0 : ∀ x ∈ fl ([[b0_3]] ++ [M]), x ∈ fl [[b0_3], M] := pick_sub [some 0, some 1] _ rfl
  have hsb : ∀ x ∈ fl ([[b0_3]] ++ [(fl [M])]), x ∈ fl [[b0_3], M] := fun x hx => hsb0 x (fl_unfold x hx)
  have hcall := gen_Maker_Job_w b0_3 a1_3 c1_3 x2.1 x2.2 14 _ w3 (fl [M]) (hpk.fold (P := [[b0_3]])) (hf3_2.sub hsb) hf3_1 hx
  refine x_call 12 #[] #[] [.pointer (some ⟨b0_3, 0, none⟩), .int .i64 14] _ rfl rfl rfl rfl hcall ?_
  rintro v w7 ⟨a0_7, c0_7, rfl, he7, hp7_0, hmn7, hfn7, hf7_1⟩
  clear hcall hx
  refine ⟨.inl rfl, ?_⟩
  have hpk2 : MS w3 ([[b0_3]] ++ [M]) := hms.pick [some 0, some 1] _ rfl
  have hsb2 : ∀ x ∈ fl ([[b0_3]] ++ [M]), x ∈ fl [[b0_3], M] := pick_sub [some 0, some 1] _ rfl
  have hst0 := Stp.call (LS := [[b0_3], M]) (res := [blk a0_7]) (par := [[b0_3]]) (R := [M]) he7 (fun b hb => hsb2 b (fl_left' (P := [[b0_3]]) b hb)) hfn7 (NP.init _ _) (fun x hx => hsb2 x (fl_right' (P := [[b0_3]]) x hx))
  have hsn : ∀ x ∈ fl [blk a0_7, [b0_3], M], x ∈ fl ([blk a0_7] ++ ([[b0_3]] ++ [M])) := pick_sub [some 0, some 1, some 2] _ rfl
  have hst := hst0.res hsn
  replace hf3_2 := hf3_2.step hst
  replace hms : MS w7 [blk a0_7, [b0_3], M] := (MS.call (P := [[b0_3]]) (R := [M]) (res := [blk a0_7]) (par := [[b0_3]]) hpk2 he7 hmn7 hfn7 (NP.init _ _)).pick [some 0, some 1, some 2] _ rfl
  have hPf : ∀ b ∈ fl [[b0_3]], w.heap.size ≤ b := FR.mem (ls := [[b0_3]]) (hfr.pick [some 0] _ rfl)
  have hfr2 : FR w.heap.size [blk a0_7, [b0_3]] := (FR.cons (fun b hb => Nat.le_trans hev.size (hfn7.at 0 rfl b hb)) (FR.cons (hfr.at 0 rfl) (FR.nil _)))
  replace hev := hev.then he7 (fun b hb => .inr (hPf b hb))
  replace hfr := hfr2
  clear hfr2
  replace hf3_1 := hp7_0
  replace hf7_1 := OwnS.plain (M' := fl [blk a0_7, [b0_3], M]) (plain_prod (plain_int _) (plain_prod (plain_int _) (plain_prod (plain_int _) (plain_int _)))) hf7_1
  clear hpk hsb hsb0 hpk2 hsb2 hst0 hsn hst
  have hpk : MS w7 [[b0_3], M] := hms.pick [some 1, some 2] _ rfl
  have hsu : ∀ x ∈ fl [[b0_3], M], x ∈ fl [blk a0_7, [b0_3], M] := pick_sub [some 1, some 2] _ rfl
  replace hf3_2 := hf3_2.sub hsu
  replace hf7_1 := hf7_1.ro hsu (pick_out hms 0 rfl [some 1, some 2] [[b0_3], M] rfl rfl)
  replace hms := hpk
  replace hfr : FR w.heap.size [[b0_3]] := hfr.pick [some 1] _ rfl
  clear hpk hsu
  refine x_alloc (z := .agg #[.slice none 0 0, .int .i64 0]) rfl rfl (by kernel_rfl) (fun b9 w9 hq9 hb9 he9 _ => ?_)
  replace hb9 : w9.heap[b9]? = some (.cells #[.slice none 0 0, .int .i64 0] 27 (0, 0)) := hb9
  refine ⟨.inl rfl, ?_⟩
  have hst := Stp.box (ls := [[b0_3], M]) he9 hq9
  replace hf3_1 := he9.box hf3_1 nn
  replace hf3_2 := hf3_2.step hst
  replace hf7_1 := hf7_1.step hst
  replace hms := hms.box he9 hq9 hb9
  replace hfr := hfr.box hev.size hq9
  replace hev := hev.ext he9
  obtain ⟨w11, hr11, hb11, he11⟩ := store_boxagg 0 [.slice a0_7 (x6.1.1).length c0_7, .int .i64 x6.1.2] #[.slice a0_7 (x6.1.1).length c0_7, .int .i64 x6.1.2] tagg27 hb9 rfl rfl rfl
  refine x_store w11 (xv := .pointer (some ⟨b9, 0, none⟩)) (yv := .agg #[.slice a0_7 (x6.1.1).length c0_7, .int .i64 x6.1.2]) rfl rfl rfl rfl hr11 ?_
  refine ⟨.inl rfl, ?_⟩
  have hst := Stp.ev' (ls := [[b9], [b0_3], M]) he11 (mem_flat 0 rfl)
  replace hf3_1 := he11.box hf3_1 (hms.apart 1 0 rfl rfl rfl _ (List.mem_singleton.2 rfl))
  replace hf3_2 := hf3_2.step hst
  replace hf7_1 := hf7_1.step hst
  replace hms := hms.ev he11
  replace hev := hev.then he11 (fun b hb => .inr (hfr.at 0 rfl b hb))
  replace hb9 := hb11
  refine x_end rfl (k_then ?_)
  refine c_seq (c_plain ?_)
  refine x_pure 1 [(27, .pointer (some ⟨b0_3, 0, none⟩))] _ _ _ (by kernel_rfl) ?_
  refine x_load (xv := .pointer (some ⟨b9, 0, none⟩)) (.agg #[.slice a0_7 (x6.1.1).length c0_7, .int .i64 x6.1.2]) rfl rfl rfl (reads_boxagg 0 [.slice a0_7 (x6.1.1).length c0_7, .int .i64 x6.1.2] tagg27 hb9 nn rfl) ?_
  obtain ⟨x12, hx, h⟩ := bind_some h
  have hpk : MS w11 ([[b0_3]] ++ [[b9], M]) := hms.pick [some 1, some 0, some 2] _ rfl
  have hsb0 : ∀ x ∈ fl ([[b0_3]] ++ [[b9], M]), x ∈ fl [[b9], [b0_3], M] := pick_sub [some 1, some 0, some 2] _ rfl
  have hsb : ∀ x ∈ fl ([[b0_3]] ++ [(fl [[b9], M])]), x ∈ fl [[b9], [b0_3], M] := fun x hx => hsb0 x (fl_unfold x hx)
  have hcall := law14_plan_w b0_3 a1_3 c1_3 x2.1 x6.2 a0_7 c0_7 x6.1.1 x6.1.2 _ w11 (fl [[b9], M]) (hpk.fold (P := [[b0_3]])) (hf3_2.sub hsb) hf3_1 (hf7_1.sub hsb) hx
  refine x_call 13 #[] #[] [.pointer (some ⟨b0_3, 0, none⟩), .agg #[.slice a0_7 (x6.1.1).length c0_7, .int .i64 x6.1.2]] _ rfl rfl rfl rfl hcall ?_
  rintro v w13 ⟨a0_13, c0_13, rfl, he13, hp13_0, hmn13, hfn13, hf13_1⟩
  clear hcall hx
  refine ⟨.inl rfl, ?_⟩
  have hpk2 : MS w11 ([[b0_3]] ++ [[b9], M]) := hms.pick [some 1, some 0, some 2] _ rfl
  have hsb2 : ∀ x ∈ fl ([[b0_3]] ++ [[b9], M]), x ∈ fl [[b9], [b0_3], M] := pick_sub [some 1, some 0, some 2] _ rfl
  have hst0 := Stp.call (LS := [[b9], [b0_3], M]) (res := [blk a0_13]) (par := [[b0_3]]) (R := [[b9], M]) he13 (fun b hb => hsb2 b (fl_left' (P := [[b0_3]]) b hb)) hfn13 (NP.init _ _) (fun x hx => hsb2 x (fl_right' (P := [[b0_3]]) x hx))
  have hsn : ∀ x ∈ fl [blk a0_13, [b9], [b0_3], M], x ∈ fl ([blk a0_13] ++ ([[b0_3]] ++ [[b9], M])) := pick_sub [some 0, some 2, some 1, some 3] _ rfl
  have hst := hst0.res hsn
  replace hf3_2 := hf3_2.step hst
  replace hf7_1 := hf7_1.step hst
  replace hb9 := he13.box hb9 ((MS.outs (P := [[b0_3]]) hpk2 0 rfl) _ (List.mem_singleton.2 rfl))
  replace hms : MS w13 [blk a0_13, [b9], [b0_3], M] := (MS.call (P := [[b0_3]]) (R := [[b9], M]) (res := [blk a0_13]) (par := [[b0_3]]) hpk2 he13 hmn13 hfn13 (NP.init _ _)).pick [some 0, some 2, some 1, some 3] _ rfl
  have hPf : ∀ b ∈ fl [[b0_3]], w.heap.size ≤ b := FR.mem (ls := [[b0_3]]) (hfr.pick [some 1] _ rfl)
  have hfr2 : FR w.heap.size [blk a0_13, [b9], [b0_3]] := (FR.cons (fun b hb => Nat.le_trans hev.size (hfn13.at 0 rfl b hb)) (FR.cons (hfr.at 0 rfl) (FR.cons (hfr.at 1 rfl) (FR.nil _))))
  replace hev := hev.then he13 (fun b hb => .inr (hPf b hb))
  replace hfr := hfr2
  clear hfr2
  replace hf3_1 := hp13_0
  replace hf13_1 := OwnS.plain (M' := fl [blk a0_13, [b9], [b0_3], M]) (plain_int _) hf13_1
  clear hpk hsb hsb0 hpk2 hsb2 hst0 hsn hst
  have hpk : MS w13 [[b9], [b0_3], M] := hms.pick [some 1, some 2, some 3] _ rfl
  have hsu : ∀ x ∈ fl [[b9], [b0_3], M], x ∈ fl [blk a0_13, [b9], [b0_3], M] := pick_sub [some 1, some 2, some 3] _ rfl
  replace hf3_2 := hf3_2.sub hsu
  replace hf7_1 := hf7_1.sub hsu
  replace hf13_1 := hf13_1.ro hsu (pick_out hms 0 rfl [some 1, some 2, some 3] [[b9], [b0_3], M] rfl rfl)
  replace hms := hpk
  replace hfr : FR w.heap.size [[b9], [b0_3]] := hfr.pick [some 1, some 2] _ rfl
  clear hpk hsu
  refine x_alloc (z := .agg #[.int .i64 0, .slice none 0 0]) rfl rfl (by kernel_rfl) (fun b15 w15 hq15 hb15 he15 _ => ?_)
  replace hb15 : w15.heap[b15]? = some (.cells #[.int .i64 0, .slice none 0 0] 30 (0, 0)) := hb15
  refine ⟨.inl rfl, ?_⟩
  have hst := Stp.box (ls := [[b9], [b0_3], M]) he15 hq15
  replace hf3_1 := he15.box hf3_1 nn
  replace hf3_2 := hf3_2.step hst
  replace hf7_1 := hf7_1.step hst
  replace hb9 := he15.box hb9 nn
  replace hf13_1 := hf13_1.step hst
  replace hms := hms.box he15 hq15 hb15
  replace hfr := hfr.box hev.size hq15
  replace hev := hev.ext he15
  obtain ⟨w17, hr17, hb17, he17⟩ := store_boxagg 0 [.int .i64 x12.1.1, .slice a0_13 (x12.1.2).length c0_13] #[.int .i64 x12.1.1, .slice a0_13 (x12.1.2).length c0_13] tagg30 hb15 rfl rfl rfl
  refine x_store w17 (xv := .pointer (some ⟨b15, 0, none⟩)) (yv := .agg #[.int .i64 x12.1.1, .slice a0_13 (x12.1.2).length c0_13]) rfl rfl rfl rfl hr17 ?_
  refine ⟨.inl rfl, ?_⟩
  have hst := Stp.ev' (ls := [[b15], [b9], [b0_3], M]) he17 (mem_flat 0 rfl)
  replace hf3_1 := he17.box hf3_1 (hms.apart 2 0 rfl rfl rfl _ (List.mem_singleton.2 rfl))
  replace hf3_2 := hf3_2.step hst
  replace hf7_1 := hf7_1.step hst
  replace hb9 := he17.box hb9 (hms.apart 1 0 rfl rfl rfl _ (List.mem_singleton.2 rfl))
  replace hf13_1 := hf13_1.step hst
  replace hms := hms.ev he17
  replace hev := hev.then he17 (fun b hb => .inr (hfr.at 0 rfl b hb))
  replace hb15 := hb17
  refine x_end rfl (k_then ?_)
  refine c_seq ?_
  refine c_seq (c_plain ?_)
  refine x_fieldAddr (xv := .pointer (some ⟨b15, 0, none⟩)) (.pointer (some ⟨b15, 0, none⟩)) rfl rfl rfl (reads_field tfld30_0 _ _) ?_
  refine x_load (xv := .pointer (some ⟨b15, 0, none⟩)) (.int .i64 x12.1.1) rfl rfl rfl (reads_box tcell3 hb15 nn 0 _ rfl) ?_
  refine x_pure 1 [(32, .bool (x12.1.1 == 0))] _ _ _ (by kernel_rfl) ?_
  refine x_end rfl (k_then ?_)
  refine c_norm [(1, .int .i64 p1), (6, .pointer (some ⟨b9, 0, none⟩)), (7, .pointer (some ⟨b15, 0, none⟩)), (32, .bool (x12.1.1 == 0))] ⟨rfl, rfl, rfl, rfl, trivial⟩ (fun J => ?_)
  refine c_cond (x12.1.1 == 0) rfl (fun hb => ?_) (fun hb => ?_)
  · replace h := ite_t hb h
    refine c_seq (c_plain ?_)
    obtain ⟨x19, hx, h⟩ := bind_some h
    have hcall := law14_sane_w _ w17 hx
    refine x_call 15 #[] #[] [] _ rfl rfl rfl rfl hcall ?_
    rintro v w20 ⟨rfl, he20⟩
    clear hcall hx
    refine ⟨.inl rfl, ?_⟩
    have hst := Stp.ext (ls := [[b15], [b9], [b0_3], M]) he20
    replace hf3_1 := he20.box hf3_1 nn
    replace hf3_2 := hf3_2.step hst
    replace hf7_1 := hf7_1.step hst
    replace hb9 := he20.box hb9 nn
    replace hf13_1 := hf13_1.step hst
    replace hb15 := he20.box hb15 nn
    replace hms := hms.ev he20
    replace hev := hev.ext he20
    refine x_pure 1 [(4, .bool x19)] _ _ _ (by kernel_rfl) ?_
    refine x_end rfl (k_then ?_)
    refine c_ret ?_
    refine k_then_ret ?_
    refine r_ret (r_vals [.bool x19] ⟨rfl, trivial⟩ ?_)
    have hx := some_inj h
    subst hx
    have hmr : MS w20 [M] := hms.pick [some 3] _ rfl
    have hsu : ∀ x ∈ fl [M], x ∈ fl [[b15], [b9], [b0_3], M] := pick_sub [some 3] _ rfl
    exact ⟨rfl, hev⟩
  replace h := ite_f hb h
  refine c_skip ?_
  refine k_then ?_
  refine c_seq ?_
  refine c_drawn [] [(0, false), (1, false), (2, false), (3, false), (4, false), (5, false), (6, false), (7, false), (8, false), (9, false), (10, false), (11, false)] _ (by kernel_rfl) rfl ?_
  have hst := Stp.ext (ls := [[b15], [b9], [b0_3], M]) (Ev.drew w17)
  replace hf3_1 := (Ev.drew w17).box hf3_1 nn
  replace hf3_2 := hf3_2.step hst
  replace hf7_1 := hf7_1.step hst
  replace hb9 := (Ev.drew w17).box hb9 nn
  replace hf13_1 := hf13_1.step hst
  replace hb15 := (Ev.drew w17).box hb15 nn
  replace hms := hms.ev (Ev.drew w17)
  replace hev := hev.ext (Ev.drew w17)
  refine x_pure 1 [(34, .int .i64 p1)] _ _ _ (by kernel_rfl) ?_
  refine x_fieldAddr (xv := .pointer (some ⟨b15, 0, none⟩)) (.pointer (some ⟨b15, 0, none⟩)) rfl rfl rfl (reads_field tfld30_0 _ _) ?_
  refine x_load (xv := .pointer (some ⟨b15, 0, none⟩)) (.int .i64 x12.1.1) rfl rfl rfl (reads_box tcell3 hb15 nn 0 _ rfl) ?_
  refine x_binop (.int .i64 (Int.tmod p1 x12.1.1)) (.int .i64 p1) (.int .i64 x12.1.1) rfl rfl rfl rfl (vb_rem (guard_l h)) ?_
  replace h := guard_r h
  refine x_fieldAddr (xv := .pointer (some ⟨b15, 0, none⟩)) (.pointer (some ⟨b15, 0, none⟩)) rfl rfl rfl (reads_field tfld30_0 _ _) ?_
  refine x_load (xv := .pointer (some ⟨b15, 0, none⟩)) (.int .i64 x12.1.1) rfl rfl rfl (reads_box tcell3 hb15 nn 0 _ rfl) ?_
  refine x_pure 1 [(40, .int .i64 (IntKind.i64.wrap ((Int.tmod p1 x12.1.1) + x12.1.1)))] _ _ _ (by kernel_rfl) ?_
  refine x_fieldAddr (xv := .pointer (some ⟨b15, 0, none⟩)) (.pointer (some ⟨b15, 0, none⟩)) rfl rfl rfl (reads_field tfld30_0 _ _) ?_
  refine x_load (xv := .pointer (some ⟨b15, 0, none⟩)) (.int .i64 x12.1.1) rfl rfl rfl (reads_box tcell3 hb15 nn 0 _ rfl) ?_
  refine x_binop (.int .i64 (Int.tmod (IntKind.i64.wrap ((Int.tmod p1 x12.1.1) + x12.1.1)) x12.1.1)) (.int .i64 (IntKind.i64.wrap ((Int.tmod p1 x12.1.1) + x12.1.1))) (.int .i64 x12.1.1) rfl rfl rfl rfl (vb_rem (guard_l h)) ?_
  replace h := guard_r h
  refine x_pure 2 [(44, .int .i64 (IntKind.i64.wrap (1 + (Int.tmod (IntKind.i64.wrap ((Int.tmod p1 x12.1.1) + x12.1.1)) x12.1.1)))), (1, .int .i64 (IntKind.i64.wrap (1 + (Int.tmod (IntKind.i64.wrap ((Int.tmod p1 x12.1.1) + x12.1.1)) x12.1.1))))] _ _ _ (by kernel_rfl) ?_
  refine x_end rfl (k_then ?_)
  refine c_seq (c_plain ?_)
  refine x_load (xv := .pointer (some ⟨b9, 0, none⟩)) (.agg #[.slice a0_7 (x6.1.1).length c0_7, .int .i64 x6.1.2]) rfl rfl rfl (reads_boxagg 0 [.slice a0_7 (x6.1.1).length c0_7, .int .i64 x6.1.2] tagg27 hb9 nn rfl) ?_
  refine x_load (xv := .pointer (some ⟨b15, 0, none⟩)) (.agg #[.int .i64 x12.1.1, .slice a0_13 (x12.1.2).length c0_13]) rfl rfl rfl (reads_boxagg 0 [.int .i64 x12.1.1, .slice a0_13 (x12.1.2).length c0_13] tagg30 hb15 nn rfl) ?_
  refine x_pure 2 [(48, .int .i64 (IntKind.i64.wrap (1 + (Int.tmod (IntKind.i64.wrap ((Int.tmod p1 x12.1.1) + x12.1.1)) x12.1.1)))), (49, .int .i64 (IntKind.i64.wrap ((IntKind.i64.wrap (1 + (Int.tmod (IntKind.i64.wrap ((Int.tmod p1 x12.1.1) + x12.1.1)) x12.1.1))) - 1)))] _ _ _ (by kernel_rfl) ?_
  obtain ⟨x21, hx, h⟩ := bind_some h
  have hpk : MS (w17).drew ([] ++ [[b15], [b9], [b0_3], M]) := hms.pick [some 0, some 1, some 2, some 3] _ rfl
  have hsb0 : ∀ x ∈ fl ([] ++ [[b15], [b9], [b0_3], M]), x ∈ fl [[b15], [b9], [b0_3], M] := pick_sub [some 0, some 1, some 2, some 3] _ rfl
  have hsb : ∀ x ∈ fl ([] ++ [(fl [[b15], [b9], [b0_3], M])]), x ∈ fl [[b15], [b9], [b0_3], M] := fun x hx => hsb0 x (fl_unfold x hx)
  have hcall := rollin_Contents_w a0_7 c0_7 x6.1.1 x6.1.2 x12.1.1 a0_13 c0_13 x12.1.2 (IntKind.i64.wrap ((IntKind.i64.wrap (1 + (Int.tmod (IntKind.i64.wrap ((Int.tmod p1 x12.1.1) + x12.1.1)) x12.1.1))) - 1)) _ (w17).drew (fl [[b15], [b9], [b0_3], M]) (MS.fold (P := []) hpk) (hf7_1.sub hsb) (hf13_1.sub hsb) hx
  refine x_call 16 #[] #[] [.agg #[.slice a0_7 (x6.1.1).length c0_7, .int .i64 x6.1.2], .agg #[.int .i64 x12.1.1, .slice a0_13 (x12.1.2).length c0_13], .int .i64 (IntKind.i64.wrap ((IntKind.i64.wrap (1 + (Int.tmod (IntKind.i64.wrap ((Int.tmod p1 x12.1.1) + x12.1.1)) x12.1.1))) - 1))] _ rfl rfl rfl rfl hcall ?_
  rintro v w22 ⟨a0_22, c0_22, B2_22, a3_22, c3_22, B5_22, rfl, he22, hmn22, hfn22, hf22_1, hf22_2⟩
  clear hcall hx
  refine ⟨.inl rfl, ?_⟩
  have hpk2 : MS (w17).drew ([] ++ [[b15], [b9], [b0_3], M]) := hms.pick [some 0, some 1, some 2, some 3] _ rfl
  have hsb2 : ∀ x ∈ fl ([] ++ [[b15], [b9], [b0_3], M]), x ∈ fl [[b15], [b9], [b0_3], M] := pick_sub [some 0, some 1, some 2, some 3] _ rfl
  have hst0 := Stp.call (LS := [[b15], [b9], [b0_3], M]) (res := [B2_22, B5_22]) (par := []) (R := [[b15], [b9], [b0_3], M]) he22 (fun b hb => hsb2 b (fl_left' (P := []) b hb)) hfn22 (NP.init _ _) (fun x hx => hsb2 x (fl_right' (P := []) x hx))
  have hsn : ∀ x ∈ fl [B2_22, B5_22, [b15], [b9], [b0_3], M], x ∈ fl ([B2_22, B5_22] ++ ([] ++ [[b15], [b9], [b0_3], M])) := pick_sub [some 0, some 1, some 2, some 3, some 4, some 5] _ rfl
  have hst := hst0.res hsn
  replace hf3_1 := he22.box hf3_1 ((MS.outs (P := []) hpk2 2 rfl) _ (List.mem_singleton.2 rfl))
  replace hf3_2 := hf3_2.step hst
  replace hf7_1 := hf7_1.step hst
  replace hb9 := he22.box hb9 ((MS.outs (P := []) hpk2 1 rfl) _ (List.mem_singleton.2 rfl))
  replace hf13_1 := hf13_1.step hst
  replace hb15 := he22.box hb15 ((MS.outs (P := []) hpk2 0 rfl) _ (List.mem_singleton.2 rfl))
  replace hms : MS w22 [B2_22, B5_22, [b15], [b9], [b0_3], M] := (MS.call (P := []) (R := [[b15], [b9], [b0_3], M]) (res := [B2_22, B5_22]) (par := []) hpk2 he22 hmn22 hfn22 (NP.init _ _)).pick [some 0, some 1, some 2, some 3, some 4, some 5] _ rfl
  have hfr2 : FR w.heap.size [B2_22, B5_22, [b15], [b9], [b0_3]] := (FR.cons (fun b hb => Nat.le_trans hev.size (hfn22.at 0 rfl b hb)) (FR.cons (fun b hb => Nat.le_trans hev.size (hfn22.at 1 rfl b hb)) (FR.cons (hfr.at 0 rfl) (FR.cons (hfr.at 1 rfl) (FR.cons (hfr.at 2 rfl) (FR.nil _))))))
  replace hev := hev.ext he22
  replace hfr := hfr2
  clear hfr2
  clear hpk hsb hsb0 hpk2 hsb2 hst0 hsn hst
  refine x_pure 7 [(45, .tuple #[.slice a0_22 (x21.1).length c0_22, .slice a3_22 (x21.2.1).length c3_22, .int .i64 x21.2.2]), (51, .slice a0_22 (x21.1).length c0_22), (52, .slice a3_22 (x21.2.1).length c3_22), (53, .int .i64 x21.2.2), (8, .slice a0_22 (x21.1).length c0_22), (9, .slice a3_22 (x21.2.1).length c3_22), (10, .int .i64 x21.2.2)] _ _ _ (by kernel_rfl) ?_
  refine x_end rfl (k_then ?_)
  refine c_norm [(1, .int .i64 (IntKind.i64.wrap (1 + (Int.tmod (IntKind.i64.wrap ((Int.tmod p1 x12.1.1) + x12.1.1)) x12.1.1)))), (6, .pointer (some ⟨b9, 0, none⟩)), (7, .pointer (some ⟨b15, 0, none⟩)), (8, .slice a0_22 (x21.1).length c0_22), (9, .slice a3_22 (x21.2.1).length c3_22), (10, .int .i64 x21.2.2)] ⟨rfl, rfl, rfl, rfl, rfl, rfl, trivial⟩ (fun J => ?_)
  refine c_seq (c_plain ?_)
  refine x_load (xv := .pointer (some ⟨b9, 0, none⟩)) (.agg #[.slice a0_7 (x6.1.1).length c0_7, .int .i64 x6.1.2]) rfl rfl rfl (reads_boxagg 0 [.slice a0_7 (x6.1.1).length c0_7, .int .i64 x6.1.2] tagg27 hb9 nn rfl) ?_
  refine x_load (xv := .pointer (some ⟨b15, 0, none⟩)) (.agg #[.int .i64 x12.1.1, .slice a0_13 (x12.1.2).length c0_13]) rfl rfl rfl (reads_boxagg 0 [.int .i64 x12.1.1, .slice a0_13 (x12.1.2).length c0_13] tagg30 hb15 nn rfl) ?_
  refine x_pure 1 [(57, .int .i64 (IntKind.i64.wrap (1 + (Int.tmod (IntKind.i64.wrap ((Int.tmod p1 x12.1.1) + x12.1.1)) x12.1.1))))] _ _ _ (by kernel_rfl) ?_
  obtain ⟨x25, hx, h⟩ := bind_some h
  have hpk : MS w22 ([] ++ [B2_22, B5_22, [b15], [b9], [b0_3], M]) := hms.pick [some 0, some 1, some 2, some 3, some 4, some 5] _ rfl
  have hsb0 : ∀ x ∈ fl ([] ++ [B2_22, B5_22, [b15], [b9], [b0_3], M]), x ∈ fl [B2_22, B5_22, [b15], [b9], [b0_3], M] := pick_sub [some 0, some 1, some 2, some 3, some 4, some 5] _ rfl
  have hsb : ∀ x ∈ fl ([] ++ [(fl [B2_22, B5_22, [b15], [b9], [b0_3], M])]), x ∈ fl [B2_22, B5_22, [b15], [b9], [b0_3], M] := fun x hx => hsb0 x (fl_unfold x hx)
  have hcall := rollin_Contents_w a0_7 c0_7 x6.1.1 x6.1.2 x12.1.1 a0_13 c0_13 x12.1.2 (IntKind.i64.wrap (1 + (Int.tmod (IntKind.i64.wrap ((Int.tmod p1 x12.1.1) + x12.1.1)) x12.1.1))) _ w22 (fl [B2_22, B5_22, [b15], [b9], [b0_3], M]) (MS.fold (P := []) hpk) (hf7_1.sub hsb) (hf13_1.sub hsb) hx
  refine x_call 16 #[] #[] [.agg #[.slice a0_7 (x6.1.1).length c0_7, .int .i64 x6.1.2], .agg #[.int .i64 x12.1.1, .slice a0_13 (x12.1.2).length c0_13], .int .i64 (IntKind.i64.wrap (1 + (Int.tmod (IntKind.i64.wrap ((Int.tmod p1 x12.1.1) + x12.1.1)) x12.1.1)))] _ rfl rfl rfl rfl hcall ?_
  rintro v w26 ⟨a0_26, c0_26, B2_26, a3_26, c3_26, B5_26, rfl, he26, hmn26, hfn26, hf26_1, hf26_2⟩
  clear hcall hx
  refine ⟨.inl rfl, ?_⟩
  have hpk2 : MS w22 ([] ++ [B2_22, B5_22, [b15], [b9], [b0_3], M]) := hms.pick [some 0, some 1, some 2, some 3, some 4, some 5] _ rfl
  have hsb2 : ∀ x ∈ fl ([] ++ [B2_22, B5_22, [b15], [b9], [b0_3], M]), x ∈ fl [B2_22, B5_22, [b15], [b9], [b0_3], M] := pick_sub [some 0, some 1, some 2, some 3, some 4, some 5] _ rfl
  have hst0 := Stp.call (LS := [B2_22, B5_22, [b15], [b9], [b0_3], M]) (res := [B2_26, B5_26]) (par := []) (R := [B2_22, B5_22, [b15], [b9], [b0_3], M]) he26 (fun b hb => hsb2 b (fl_left' (P := []) b hb)) hfn26 (NP.init _ _) (fun x hx => hsb2 x (fl_right' (P := []) x hx))
  have hsn : ∀ x ∈ fl [B2_26, B5_26, B2_22, B5_22, [b15], [b9], [b0_3], M], x ∈ fl ([B2_26, B5_26] ++ ([] ++ [B2_22, B5_22, [b15], [b9], [b0_3], M])) := pick_sub [some 0, some 1, some 2, some 3, some 4, some 5, some 6, some 7] _ rfl
  have hst := hst0.res hsn
  replace hf3_1 := he26.box hf3_1 ((MS.outs (P := []) hpk2 4 rfl) _ (List.mem_singleton.2 rfl))
  replace hf3_2 := hf3_2.step hst
  replace hf7_1 := hf7_1.step hst
  replace hb9 := he26.box hb9 ((MS.outs (P := []) hpk2 3 rfl) _ (List.mem_singleton.2 rfl))
  replace hf13_1 := hf13_1.step hst
  replace hb15 := he26.box hb15 ((MS.outs (P := []) hpk2 2 rfl) _ (List.mem_singleton.2 rfl))
  replace hf22_1 := hf22_1.step (plain_int _) he26 (MS.outs (P := []) hpk2 0 rfl)
  replace hf22_2 := hf22_2.step (plain_int _) he26 (MS.outs (P := []) hpk2 1 rfl)
  replace hms : MS w26 [B2_26, B5_26, B2_22, B5_22, [b15], [b9], [b0_3], M] := (MS.call (P := []) (R := [B2_22, B5_22, [b15], [b9], [b0_3], M]) (res := [B2_26, B5_26]) (par := []) hpk2 he26 hmn26 hfn26 (NP.init _ _)).pick [some 0, some 1, some 2, some 3, some 4, some 5, some 6, some 7] _ rfl
  have hfr2 : FR w.heap.size [B2_26, B5_26, B2_22, B5_22, [b15], [b9], [b0_3]] := (FR.cons (fun b hb => Nat.le_trans hev.size (hfn26.at 0 rfl b hb)) (FR.cons (fun b hb => Nat.le_trans hev.size (hfn26.at 1 rfl b hb)) (FR.cons (hfr.at 0 rfl) (FR.cons (hfr.at 1 rfl) (FR.cons (hfr.at 2 rfl) (FR.cons (hfr.at 3 rfl) (FR.cons (hfr.at 4 rfl) (FR.nil _))))))))
  replace hev := hev.ext he26
  replace hfr := hfr2
  clear hfr2
  clear hpk hsb hsb0 hpk2 hsb2 hst0 hsn hst
  have hpk : MS w26 [B5_26, B2_22, B5_22, [b15], [b9], [b0_3], M] := hms.pick [some 1, some 2, some 3, some 4, some 5, some 6, some 7] _ rfl
  have hsu : ∀ x ∈ fl [B5_26, B2_22, B5_22, [b15], [b9], [b0_3], M], x ∈ fl [B2_26, B5_26, B2_22, B5_22, [b15], [b9], [b0_3], M] := pick_sub [some 1, some 2, some 3, some 4, some 5, some 6, some 7] _ rfl
  replace hf3_2 := hf3_2.sub hsu
  replace hf7_1 := hf7_1.sub hsu
  replace hf13_1 := hf13_1.sub hsu
  replace hf26_1 := hf26_1.ro (plain_int _) (pick_out hms 0 rfl [some 1, some 2, some 3, some 4, some 5, some 6, some 7] [B5_26, B2_22, B5_22, [b15], [b9], [b0_3], M] rfl rfl)
  replace hms := hpk
  replace hfr : FR w.heap.size [B5_26, B2_22, B5_22, [b15], [b9], [b0_3]] := hfr.pick [some 1, some 2, some 3, some 4, some 5, some 6] _ rfl
  clear hpk hsu
  have hpk : MS w26 [B2_22, B5_22, [b15], [b9], [b0_3], M] := hms.pick [some 1, some 2, some 3, some 4, some 5, some 6] _ rfl
  have hsu : ∀ x ∈ fl [B2_22, B5_22, [b15], [b9], [b0_3], M], x ∈ fl [B5_26, B2_22, B5_22, [b15], [b9], [b0_3], M] := pick_sub [some 1, some 2, some 3, some 4, some 5, some 6] _ rfl
  replace hf3_2 := hf3_2.sub hsu
  replace hf7_1 := hf7_1.sub hsu
  replace hf13_1 := hf13_1.sub hsu
  replace hf26_1 := hf26_1.sub hsu
  replace hf26_2 := hf26_2.ro (plain_int _) (pick_out hms 0 rfl [some 1, some 2, some 3, some 4, some 5, some 6] [B2_22, B5_22, [b15], [b9], [b0_3], M] rfl rfl)
  replace hms := hpk
  replace hfr : FR w.heap.size [B2_22, B5_22, [b15], [b9], [b0_3]] := hfr.pick [some 1, some 2, some 3, some 4, some 5] _ rfl
  clear hpk hsu
  refine x_pure 7 [(54, .tuple #[.slice a0_26 (x25.1).length c0_26, .slice a3_26 (x25.2.1).length c3_26, .int .i64 x25.2.2]), (59, .slice a0_26 (x25.1).length c0_26), (60, .slice a3_26 (x25.2.1).length c3_26), (61, .int .i64 x25.2.2), (11, .slice a0_26 (x25.1).length c0_26), (12, .slice a3_26 (x25.2.1).length c3_26), (13, .int .i64 x25.2.2)] _ _ _ (by kernel_rfl) ?_
  refine x_end rfl (k_then ?_)
  refine c_seq ?_
  refine c_seq (c_plain ?_)
  refine x_pure 3 [(62, .int .i64 x21.2.2), (63, .bool (x21.2.2 != 0)), (64, .bool (x21.2.2 != 0))] _ _ _ (by kernel_rfl) ?_
  refine x_split 64 (x21.2.2 != 0) rfl (fun hb => ?_) (fun hb => ?_)
  · replace h := ite_t hb h
    refine x_pure 17 [(65, undef), (66, undef), (67, .bool true), (68, .bool true), (69, undef), (70, undef), (71, undef), (72, undef), (73, undef), (74, .bool true), (75, .bool true), (76, undef), (77, undef), (78, undef), (79, undef), (80, undef), (81, .bool true)] _ _ _ (by kernel_rfl) ?_
    refine x_end rfl (k_then ?_)
    refine c_norm [(1, .int .i64 (IntKind.i64.wrap (1 + (Int.tmod (IntKind.i64.wrap ((Int.tmod p1 x12.1.1) + x12.1.1)) x12.1.1)))), (6, .pointer (some ⟨b9, 0, none⟩)), (7, .pointer (some ⟨b15, 0, none⟩)), (8, .slice a0_22 (x21.1).length c0_22), (9, .slice a3_22 (x21.2.1).length c3_22), (11, .slice a0_26 (x25.1).length c0_26), (12, .slice a3_26 (x25.2.1).length c3_26), (81, .bool true)] ⟨rfl, rfl, rfl, rfl, rfl, rfl, rfl, rfl, trivial⟩ (fun J => ?_)
    refine c_true rfl ?_
    refine c_seq (c_plain ?_)
    refine x_pure 1 [(4, .bool false)] _ _ _ (by kernel_rfl) ?_
    refine x_end rfl (k_then ?_)
    refine c_ret ?_
    refine k_then_ret ?_
    refine r_ret (r_vals [.bool false] ⟨rfl, trivial⟩ ?_)
    have hx := some_inj h
    subst hx
    have hmr : MS w26 [M] := hms.pick [some 5] _ rfl
    have hsu : ∀ x ∈ fl [M], x ∈ fl [B2_22, B5_22, [b15], [b9], [b0_3], M] := pick_sub [some 5] _ rfl
    exact ⟨rfl, hev⟩
  replace h := ite_f hb h
  refine x_pure 4 [(65, .int .i64 x25.2.2), (66, .bool (x25.2.2 != 0)), (67, .bool (x25.2.2 != 0)), (68, .bool (x25.2.2 != 0))] _ _ _ (by kernel_rfl) ?_
  refine x_split 68 (x25.2.2 != 0) rfl (fun hb => ?_) (fun hb => ?_)
  · replace h := ite_t hb h
    refine x_pure 13 [(69, undef), (70, undef), (71, undef), (72, undef), (73, undef), (74, .bool true), (75, .bool true), (76, undef), (77, undef), (78, undef), (79, undef), (80, undef), (81, .bool true)] _ _ _ (by kernel_rfl) ?_
    refine x_end rfl (k_then ?_)
    refine c_norm [(1, .int .i64 (IntKind.i64.wrap (1 + (Int.tmod (IntKind.i64.wrap ((Int.tmod p1 x12.1.1) + x12.1.1)) x12.1.1)))), (6, .pointer (some ⟨b9, 0, none⟩)), (7, .pointer (some ⟨b15, 0, none⟩)), (8, .slice a0_22 (x21.1).length c0_22), (9, .slice a3_22 (x21.2.1).length c3_22), (11, .slice a0_26 (x25.1).length c0_26), (12, .slice a3_26 (x25.2.1).length c3_26), (81, .bool true)] ⟨rfl, rfl, rfl, rfl, rfl, rfl, rfl, rfl, trivial⟩ (fun J => ?_)
    refine c_true rfl ?_
    refine c_seq (c_plain ?_)
    refine x_pure 1 [(4, .bool false)] _ _ _ (by kernel_rfl) ?_
    refine x_end rfl (k_then ?_)
    refine c_ret ?_
    refine k_then_ret ?_
    refine r_ret (r_vals [.bool false] ⟨rfl, trivial⟩ ?_)
    have hx := some_inj h
    subst hx
    have hmr : MS w26 [M] := hms.pick [some 5] _ rfl
    have hsu : ∀ x ∈ fl [M], x ∈ fl [B2_22, B5_22, [b15], [b9], [b0_3], M] := pick_sub [some 5] _ rfl
    exact ⟨rfl, hev⟩
  replace h := ite_f hb h
  refine x_pure 1 [(69, .slice a0_22 (x21.1).length c0_22)] _ _ _ (by kernel_rfl) ?_
  refine x_len (vs := [.slice a0_22 (x21.1).length c0_22]) (.int .i64 ((x21.1).length : Int)) rfl rfl rfl (reads_len tsl32 _ _ _ _ _) ?_
  refine x_fieldAddr (xv := .pointer (some ⟨b15, 0, none⟩)) (.pointer (some ⟨b15, 0, none⟩)) rfl rfl rfl (reads_field tfld30_0 _ _) ?_
  refine x_load (xv := .pointer (some ⟨b15, 0, none⟩)) (.int .i64 x12.1.1) rfl rfl rfl (reads_box tcell3 hb15 nn 0 _ rfl) ?_
  refine x_pure 3 [(73, .bool (((x21.1).length : Int) != x12.1.1)), (74, .bool (((x21.1).length : Int) != x12.1.1)), (75, .bool (((x21.1).length : Int) != x12.1.1))] _ _ _ (by kernel_rfl) ?_
  refine x_split 75 (((x21.1).length : Int) != x12.1.1) rfl (fun hb => ?_) (fun hb => ?_)
  · replace h := ite_t hb h
    refine x_pure 6 [(76, undef), (77, undef), (78, undef), (79, undef), (80, undef), (81, .bool true)] _ _ _ (by kernel_rfl) ?_
    refine x_end rfl (k_then ?_)
    refine c_norm [(1, .int .i64 (IntKind.i64.wrap (1 + (Int.tmod (IntKind.i64.wrap ((Int.tmod p1 x12.1.1) + x12.1.1)) x12.1.1)))), (6, .pointer (some ⟨b9, 0, none⟩)), (7, .pointer (some ⟨b15, 0, none⟩)), (8, .slice a0_22 (x21.1).length c0_22), (9, .slice a3_22 (x21.2.1).length c3_22), (11, .slice a0_26 (x25.1).length c0_26), (12, .slice a3_26 (x25.2.1).length c3_26), (81, .bool true)] ⟨rfl, rfl, rfl, rfl, rfl, rfl, rfl, rfl, trivial⟩ (fun J => ?_)
    refine c_true rfl ?_
    refine c_seq (c_plain ?_)
    refine x_pure 1 [(4, .bool false)] _ _ _ (by kernel_rfl) ?_
    refine x_end rfl (k_then ?_)
    refine c_ret ?_
    refine k_then_ret ?_
    refine r_ret (r_vals [.bool false] ⟨rfl, trivial⟩ ?_)
    have hx := some_inj h
    subst hx
    have hmr : MS w26 [M] := hms.pick [some 5] _ rfl
    have hsu : ∀ x ∈ fl [M], x ∈ fl [B2_22, B5_22, [b15], [b9], [b0_3], M] := pick_sub [some 5] _ rfl
    exact ⟨rfl, hev⟩
  replace h := ite_f hb h
  refine x_pure 1 [(76, .slice a3_22 (x21.2.1).length c3_22)] _ _ _ (by kernel_rfl) ?_
  refine x_len (vs := [.slice a3_22 (x21.2.1).length c3_22]) (.int .i64 ((x21.2.1).length : Int)) rfl rfl rfl (reads_len tsl32 _ _ _ _ _) ?_
  refine x_pure 1 [(78, .slice a3_26 (x25.2.1).length c3_26)] _ _ _ (by kernel_rfl) ?_
  refine x_len (vs := [.slice a3_26 (x25.2.1).length c3_26]) (.int .i64 ((x25.2.1).length : Int)) rfl rfl rfl (reads_len tsl32 _ _ _ _ _) ?_
  refine x_pure 2 [(80, .bool (((x21.2.1).length : Int) != ((x25.2.1).length : Int))), (81, .bool (((x21.2.1).length : Int) != ((x25.2.1).length : Int)))] _ _ _ (by kernel_rfl) ?_
  refine x_end rfl (k_then ?_)
  refine c_norm [(1, .int .i64 (IntKind.i64.wrap (1 + (Int.tmod (IntKind.i64.wrap ((Int.tmod p1 x12.1.1) + x12.1.1)) x12.1.1)))), (6, .pointer (some ⟨b9, 0, none⟩)), (7, .pointer (some ⟨b15, 0, none⟩)), (8, .slice a0_22 (x21.1).length c0_22), (9, .slice a3_22 (x21.2.1).length c3_22), (11, .slice a0_26 (x25.1).length c0_26), (12, .slice a3_26 (x25.2.1).length c3_26), (81, .bool (((x21.2.1).length : Int) != ((x25.2.1).length : Int)))] ⟨rfl, rfl, rfl, rfl, rfl, rfl, rfl, rfl, trivial⟩ (fun J => ?_)
  refine c_cond (((x21.2.1).length : Int) != ((x25.2.1).length : Int)) rfl (fun hb => ?_) (fun hb => ?_)
  · replace h := ite_t hb h
    refine c_seq (c_plain ?_)
    refine x_pure 1 [(4, .bool false)] _ _ _ (by kernel_rfl) ?_
    refine x_end rfl (k_then ?_)
    refine c_ret ?_
    refine k_then_ret ?_
    refine r_ret (r_vals [.bool false] ⟨rfl, trivial⟩ ?_)
    have hx := some_inj h
    subst hx
    have hmr : MS w26 [M] := hms.pick [some 5] _ rfl
    have hsu : ∀ x ∈ fl [M], x ∈ fl [B2_22, B5_22, [b15], [b9], [b0_3], M] := pick_sub [some 5] _ rfl
    exact ⟨rfl, hev⟩
  replace h := ite_f hb h
  refine c_skip ?_
  refine k_then ?_
  refine c_seq (c_plain ?_)
  refine x_buildSlice (vs := []) #[] 3 rfl rfl rfl (by kernel_rfl) (fun b30 w30 hq30 hb30 he30 hz30 => ?_)
  refine ⟨.inl rfl, ?_⟩
  obtain ⟨a30, ea30⟩ : ∃ a, a = some (⟨b30, 0, none⟩ : Addr) := ⟨_, rfl⟩
  have hw30 : ∀ M, OwnS (eInt .i64) 3 w30 M a30 0 ([] : List Int) := fun M => ea30 ▸ own_of_box hb30 (by decide) rfl rfl (cells_at (cs := []) CellsOf.nil)
  have hn30 : ∀ b ∈ blk a30, w26.heap.size ≤ b ∧ b < w30.heap.size := by subst ea30; intro b hb; simp only [blk, List.mem_singleton] at hb; subst hb; exact ⟨Nat.le_of_eq hq30.symm, lt_of_heap hb30⟩
  clear hb30
  have hst := Stp.push (ls := [B2_22, B5_22, [b15], [b9], [b0_3], M]) (l := blk a30) he30 (fun _ h => by cases h) (fun b hb => (hn30 b hb).1)
  replace hf3_1 := he30.box hf3_1 nn
  replace hf3_2 := hf3_2.step hst
  replace hf7_1 := hf7_1.step hst
  replace hb9 := he30.box hb9 nn
  replace hf13_1 := hf13_1.step hst
  replace hb15 := he30.box hb15 nn
  replace hf22_1 := hf22_1.step (plain_int _) he30 nn2
  replace hf22_2 := hf22_2.step (plain_int _) he30 nn2
  replace hf26_1 := hf26_1.step hst
  replace hf26_2 := hf26_2.step hst
  replace hms := hms.push he30 hn30
  replace hfr := hfr.push (fun b hb => Nat.le_trans hev.size (hn30 b hb).1)
  replace hev := hev.ext he30
  have ho30 := hw30 (fl [blk a30, B2_22, B5_22, [b15], [b9], [b0_3], M])
  clear hw30
  rw [← ea30]
  refine x_pure 3 [(83, .slice a0_22 (x21.1).length c0_22), (84, .int .i64 (IntKind.i64.wrap (1 + (Int.tmod (IntKind.i64.wrap ((Int.tmod p1 x12.1.1) + x12.1.1)) x12.1.1)))), (85, .int .i64 (IntKind.i64.wrap ((IntKind.i64.wrap (1 + (Int.tmod (IntKind.i64.wrap ((Int.tmod p1 x12.1.1) + x12.1.1)) x12.1.1))) - 1)))] _ _ _ (by kernel_rfl) ?_
  obtain ⟨x32, hx32, h⟩ := bind_some h
  obtain ⟨g32, ai32, ci32, hr32, hv32⟩ := OwnR.view (P := Try.prog) (Mo := []) tsl32 hf22_1 hx32
  refine x_indexAddr (xv := .slice a0_22 (x21.1).length c0_22) (yv := .int .i64 (IntKind.i64.wrap ((IntKind.i64.wrap (1 + (Int.tmod (IntKind.i64.wrap ((Int.tmod p1 x12.1.1) + x12.1.1)) x12.1.1))) - 1))) (.pointer (some ⟨g32, (Int.toNat (IntKind.i64.wrap ((IntKind.i64.wrap (1 + (Int.tmod (IntKind.i64.wrap ((Int.tmod p1 x12.1.1) + x12.1.1)) x12.1.1))) - 1))), none⟩)) rfl rfl rfl rfl hr32 ?_
  refine x_load (xv := .pointer (some ⟨g32, (Int.toNat (IntKind.i64.wrap ((IntKind.i64.wrap (1 + (Int.tmod (IntKind.i64.wrap ((Int.tmod p1 x12.1.1) + x12.1.1)) x12.1.1))) - 1))), none⟩)) (.slice ai32 (x32).length ci32) rfl rfl rfl (RView.load tcell22 hv32) ?_
  have hg := guard_l h
  replace h := guard_r h
  obtain ⟨a34, c34, w34, hr34, he34, hn34, hm34, hw34⟩ := own_appendN (M := (blk a30)) tel22 22 (OwnS.plain (plain_int _) ho30) (fun _ h => h) (RView.ro (plain_int _) hv32 (hms.apart 1 0 rfl rfl rfl)) hg
  refine x_builtin (vs := [.slice a30 (([] : List Int)).length 0, .slice ai32 (x32).length ci32]) _ w34 rfl rfl rfl rfl (run_value _ _ _ _ hr34) ?_
  refine ⟨.inl rfl, ?_⟩
  have hst : Stp (fl [blk a30, B2_22, B5_22, [b15], [b9], [b0_3], M]) w30 (fl [blk a34, B2_22, B5_22, [b15], [b9], [b0_3], M]) w34 := Stp.upd 0 he34 rfl (fun b hb => (hn34 b hb).1)
  replace hf3_1 := he34.box hf3_1 (hms.apart 5 0 rfl rfl rfl _ (List.mem_singleton.2 rfl))
  replace hf3_2 := hf3_2.step hst
  replace hf7_1 := hf7_1.step hst
  replace hb9 := he34.box hb9 (hms.apart 4 0 rfl rfl rfl _ (List.mem_singleton.2 rfl))
  replace hf13_1 := hf13_1.step hst
  replace hb15 := he34.box hb15 (hms.apart 3 0 rfl rfl rfl _ (List.mem_singleton.2 rfl))
  replace hf22_1 := hf22_1.step (plain_int _) he34 (hms.apart 1 0 rfl rfl rfl)
  replace hf22_2 := hf22_2.step (plain_int _) he34 (hms.apart 2 0 rfl rfl rfl)
  replace hf26_1 := hf26_1.step hst
  replace hf26_2 := hf26_2.step hst
  replace hv32 := hv32.step (plain_int _) he34 (hms.apart 1 0 rfl rfl rfl)
  replace hms : MS w34 [blk a34, B2_22, B5_22, [b15], [b9], [b0_3], M] := hms.upd 0 he34 rfl hn34
  have hfr2 : FR w.heap.size [blk a34, B2_22, B5_22, [b15], [b9], [b0_3]] := hfr.upd 0 rfl hev.size (fun b hb => (hn34 b hb).1)
  replace hev := hev.then he34 (fun b hb => .inr (hfr.at 0 rfl b hb))
  replace hfr := hfr2
  clear hfr2
  replace ho30 := OwnS.plain (M' := fl [blk a34, B2_22, B5_22, [b15], [b9], [b0_3], M]) (plain_int _) (hw34 [] (fun _ h => by cases h))
  clear hw34
  refine x_pure 1 [(14, .slice a34 ((([] : List Int) ++ x32)).length c34)] _ _ _ (by kernel_rfl) ?_
  refine x_end rfl (k_then ?_)
  refine c_seq ?_
  refine c_seq (c_plain ?_)
  refine x_fieldAddr (xv := .pointer (some ⟨b9, 0, none⟩)) (.pointer (some ⟨b9, 0, none⟩)) rfl rfl rfl (reads_field tfld27_0 _ _) ?_
  refine x_load (xv := .pointer (some ⟨b9, 0, none⟩)) (.slice a0_7 (x6.1.1).length c0_7) rfl rfl rfl (reads_box tcell25 hb9 nn 0 _ rfl) ?_
  refine x_len (vs := [.slice a0_7 (x6.1.1).length c0_7]) (.int .i64 ((x6.1.1).length : Int)) rfl rfl rfl (reads_len tsl25 _ _ _ _ _) ?_
  refine x_pure 1 [(92, .int .i64 0)] _ _ _ (by kernel_rfl) ?_
  refine x_end rfl (k_then ?_)
  refine c_block ?_
  have hpk : MS w34 [[b9], [b15], B2_22, B5_22, blk a34, M] := hms.pick [some 4, some 3, some 1, some 2, some 0, some 6] _ rfl
  have hsu : ∀ x ∈ fl [[b9], [b15], B2_22, B5_22, blk a34, M], x ∈ fl [blk a34, B2_22, B5_22, [b15], [b9], [b0_3], M] := pick_sub [some 4, some 3, some 1, some 2, some 0, some 6] _ rfl
  replace hf7_1 := hf7_1.sub hsu
  replace hf13_1 := hf13_1.sub hsu
  replace hf26_1 := hf26_1.sub hsu
  replace hf26_2 := hf26_2.sub hsu
  replace ho30 := ho30.sub hsu
  replace hms := hpk
  replace hfr : FR w.heap.size [[b9], [b15], B2_22, B5_22, blk a34] := hfr.pick [some 4, some 3, some 1, some 2, some 0] _ rfl
  clear hpk hsu
  obtain ⟨d36, hd36, h36⟩ := bind_some h
  obtain ⟨m36, hd36⟩ := loop_some hd36
  refine c_loop (loop_rule hmx (σ := Nat × (List Int) × Int × Option Addr × Nat) (fun s => match s with | (_, d31_l36, t92__s92_l36, a31_l36, c31_l36) => [(1, .int .i64 (IntKind.i64.wrap (1 + (Int.tmod (IntKind.i64.wrap ((Int.tmod p1 x12.1.1) + x12.1.1)) x12.1.1)))), (6, .pointer (some ⟨b9, 0, none⟩)), (7, .pointer (some ⟨b15, 0, none⟩)), (8, .slice a0_22 (x21.1).length c0_22), (9, .slice a3_22 (x21.2.1).length c3_22), (11, .slice a0_26 (x25.1).length c0_26), (12, .slice a3_26 (x25.2.1).length c3_26), (14, .slice a31_l36 (d31_l36).length c31_l36), (90, .slice a0_7 (x6.1.1).length c0_7), (91, .int .i64 ((x6.1.1).length : Int)), (92, .int .i64 t92__s92_l36)]) (fun s w' => match s with | (m, d31_l36, t92__s92_l36, a31_l36, c31_l36) => loopN (law14_RollinStep_L36 p1 x6 x12) m (d31_l36, t92__s92_l36) = some d36 ∧ Ev [] w w' ∧ MS w' [[b9], [b15], B2_22, B5_22, blk a31_l36, M] ∧ FR w.heap.size [[b9], [b15], B2_22, B5_22, blk a31_l36] ∧ SlR (eProd (eInt .i64) (eProd (eInt .i64) (eProd (eInt .i64) (eInt .i64)))) w' (fl [[b9], [b15], B2_22, B5_22, blk a31_l36, M]) a0_7 c0_7 x6.1.1 ∧ w'.heap[b9]? = some (.cells #[.slice a0_7 (x6.1.1).length c0_7, .int .i64 x6.1.2] 27 (0, 0)) ∧ SlR (eInt .i64) w' (fl [[b9], [b15], B2_22, B5_22, blk a31_l36, M]) a0_13 c0_13 x12.1.2 ∧ w'.heap[b15]? = some (.cells #[.int .i64 x12.1.1, .slice a0_13 (x12.1.2).length c0_13] 30 (0, 0)) ∧ OwnR (eInt .i64) 3 22 w' B2_22 a0_22 c0_22 x21.1 none ∧ OwnR (eInt .i64) 3 22 w' B5_22 a3_22 c3_22 x21.2.1 none ∧ SlR (eSl (eInt .i64)) w' (fl [[b9], [b15], B2_22, B5_22, blk a31_l36, M]) a0_26 c0_26 x25.1 ∧ SlR (eSl (eInt .i64)) w' (fl [[b9], [b15], B2_22, B5_22, blk a31_l36, M]) a3_26 c3_26 x25.2.1 ∧ OwnS (eInt .i64) 3 w' (fl [[b9], [b15], B2_22, B5_22, blk a31_l36, M]) a31_l36 c31_l36 d31_l36) (fun s => s.1) (m36, (([] : List Int) ++ x32), 0, a34, c34) ⟨rfl, rfl, rfl, rfl, rfl, rfl, rfl, rfl, rfl, rfl, rfl, trivial⟩ ⟨hd36, hev, hms, hfr, hf7_1, hb9, hf13_1, hb15, hf22_1, hf22_2, hf26_1, hf26_2, ho30⟩ ?_)
  rintro ⟨m36, d31_l36, t92__s92_l36, a31_l36, c31_l36⟩ J wl36 ⟨hn36, hev, hms, hfr, hf7_1, hb9, hf13_1, hb15, hf22_1, hf22_2, hf26_1, hf26_2, ho30⟩
  rcases m36 with _ | m36
  · exact (loopN_zero hn36).elim
  obtain ⟨t36, h, hn36⟩ := bind_some hn36
  refine c_seq (c_plain ?_)
  refine x_pure 1 [(93, .bool (decide (t92__s92_l36 < ((x6.1.1).length : Int))))] _ _ _ (by kernel_rfl) ?_
  refine x_end rfl (k_then ?_)
  refine c_norm [(1, .int .i64 (IntKind.i64.wrap (1 + (Int.tmod (IntKind.i64.wrap ((Int.tmod p1 x12.1.1) + x12.1.1)) x12.1.1)))), (6, .pointer (some ⟨b9, 0, none⟩)), (7, .pointer (some ⟨b15, 0, none⟩)), (8, .slice a0_22 (x21.1).length c0_22), (9, .slice a3_22 (x21.2.1).length c3_22), (11, .slice a0_26 (x25.1).length c0_26), (12, .slice a3_26 (x25.2.1).length c3_26), (14, .slice a31_l36 (d31_l36).length c31_l36), (90, .slice a0_7 (x6.1.1).length c0_7), (91, .int .i64 ((x6.1.1).length : Int)), (92, .int .i64 t92__s92_l36), (93, .bool (decide (t92__s92_l36 < ((x6.1.1).length : Int))))] ⟨rfl, rfl, rfl, rfl, rfl, rfl, rfl, rfl, rfl, rfl, rfl, rfl, trivial⟩ (fun J => ?_)
  refine c_seq ?_
  refine c_cond (decide (t92__s92_l36 < ((x6.1.1).length : Int))) rfl (fun hb => ?_) (fun hb => ?_)
  · replace h := ite_t hb h
    refine c_skip ?_
    refine k_then ?_
    refine c_seq ?_
    refine c_block ?_
    refine c_seq (c_plain ?_)
    refine x_pure 1 [(94, .int .i64 t92__s92_l36)] _ _ _ (by kernel_rfl) ?_
    obtain ⟨x38, hx38, h⟩ := bind_some h
    obtain ⟨ad38, cs38, hr38, hc38, hR⟩ := reads_index (Mo := []) tsl25 hf7_1 hx38
    obtain ⟨_, _, rfl, rfl, ⟨_, _, rfl, rfl, ⟨_, _, rfl, rfl, rfl⟩⟩⟩ := hR
    refine x_indexAddr (xv := .slice a0_7 (x6.1.1).length c0_7) (yv := .int .i64 t92__s92_l36) (.pointer (some ad38)) rfl rfl rfl rfl hr38 ?_
    refine x_load (xv := .pointer (some ad38)) (.agg #[.int .i64 x38.1, .int .i64 x38.2.1, .int .i64 x38.2.2.1, .int .i64 x38.2.2.2]) rfl rfl rfl (reads_agg tagg39 hc38 (fun _ h => by cases h)) ?_
    refine x_alloc (z := .agg #[.int .i64 0, .int .i64 0, .int .i64 0, .int .i64 0]) rfl rfl (by kernel_rfl) (fun b40 w40 hq40 hb40 he40 _ => ?_)
    replace hb40 : w40.heap[b40]? = some (.cells #[.int .i64 0, .int .i64 0, .int .i64 0, .int .i64 0] 39 (0, 0)) := hb40
    refine ⟨.inl rfl, ?_⟩
    have hst := Stp.box (ls := [[b9], [b15], B2_22, B5_22, blk a31_l36, M]) he40 hq40
    replace hb9 := he40.box hb9 nn
    replace hf7_1 := hf7_1.step hst
    replace hb15 := he40.box hb15 nn
    replace hf13_1 := hf13_1.step hst
    replace hf22_1 := hf22_1.step (plain_int _) he40 nn2
    replace hf22_2 := hf22_2.step (plain_int _) he40 nn2
    replace hf26_1 := hf26_1.step hst
    replace hf26_2 := hf26_2.step hst
    replace ho30 := ho30.step hst he40 nn2
    replace hc38 := hc38.step hst
    replace hms := hms.box he40 hq40 hb40
    replace hfr := hfr.box hev.size hq40
    replace hev := hev.ext he40
    refine x_pure 1 [(15, .int .i64 t92__s92_l36)] _ _ _ (by kernel_rfl) ?_
    obtain ⟨w42, hr42, hb42, he42⟩ := store_boxagg 0 [.int .i64 x38.1, .int .i64 x38.2.1, .int .i64 x38.2.2.1, .int .i64 x38.2.2.2] #[.int .i64 x38.1, .int .i64 x38.2.1, .int .i64 x38.2.2.1, .int .i64 x38.2.2.2] tagg39 hb40 rfl rfl rfl
    refine x_store w42 (xv := .pointer (some ⟨b40, 0, none⟩)) (yv := .agg #[.int .i64 x38.1, .int .i64 x38.2.1, .int .i64 x38.2.2.1, .int .i64 x38.2.2.2]) rfl rfl rfl rfl hr42 ?_
    refine ⟨.inl rfl, ?_⟩
    have hst := Stp.ev' (ls := [[b40], [b9], [b15], B2_22, B5_22, blk a31_l36, M]) he42 (mem_flat 0 rfl)
    replace hb9 := he42.box hb9 (hms.apart 1 0 rfl rfl rfl _ (List.mem_singleton.2 rfl))
    replace hf7_1 := hf7_1.step hst
    replace hb15 := he42.box hb15 (hms.apart 2 0 rfl rfl rfl _ (List.mem_singleton.2 rfl))
    replace hf13_1 := hf13_1.step hst
    replace hf22_1 := hf22_1.step (plain_int _) he42 (hms.apart 3 0 rfl rfl rfl)
    replace hf22_2 := hf22_2.step (plain_int _) he42 (hms.apart 4 0 rfl rfl rfl)
    replace hf26_1 := hf26_1.step hst
    replace hf26_2 := hf26_2.step hst
    replace ho30 := ho30.step hst he42 (hms.apart 5 0 rfl rfl rfl)
    replace hc38 := hc38.step hst
    replace hms := hms.ev he42
    replace hev := hev.then he42 (fun b hb => .inr (hfr.at 0 rfl b hb))
    replace hb40 := hb42
    refine x_end rfl (k_then ?_)
    refine c_seq (c_plain ?_)
    refine x_fieldAddr (xv := .pointer (some ⟨b40, 0, none⟩)) (.pointer (some ⟨b40, 2, none⟩)) rfl rfl rfl (reads_field tfld39_2 _ _) ?_
    refine x_load (xv := .pointer (some ⟨b40, 2, none⟩)) (.int .i64 x38.2.2.1) rfl rfl rfl (reads_box tcell3 hb40 nn 2 _ rfl) ?_
    refine x_pure 2 [(99, .int .i64 (IntKind.i64.wrap (1 + (Int.tmod (IntKind.i64.wrap ((Int.tmod p1 x12.1.1) + x12.1.1)) x12.1.1)))), (100, .bool (x38.2.2.1 == (IntKind.i64.wrap (1 + (Int.tmod (IntKind.i64.wrap ((Int.tmod p1 x12.1.1) + x12.1.1)) x12.1.1)))))] _ _ _ (by kernel_rfl) ?_
    refine x_end rfl (k_then ?_)
    refine c_cond (x38.2.2.1 == (IntKind.i64.wrap (1 + (Int.tmod (IntKind.i64.wrap ((Int.tmod p1 x12.1.1) + x12.1.1)) x12.1.1)))) rfl (fun hb => ?_) (fun hb => ?_)
    · replace h := ite_t hb h
      refine c_plain ?_
      refine x_pure 2 [(101, .slice a31_l36 (d31_l36).length c31_l36), (102, .int .i64 t92__s92_l36)] _ _ _ (by kernel_rfl) ?_
      refine x_buildSlice (vs := [(0, .int .i64 t92__s92_l36)]) #[.int .i64 t92__s92_l36] 3 rfl rfl rfl (by kernel_rfl) (fun b43 w43 hq43 hb43 he43 hz43 => ?_)
      refine ⟨.inl rfl, ?_⟩
      have hms0 := hms
      have hst := Stp.ext (ls := [[b40], [b9], [b15], B2_22, B5_22, blk a31_l36, M]) he43
      replace hb9 := he43.box hb9 nn
      replace hf7_1 := hf7_1.step hst
      replace hb15 := he43.box hb15 nn
      replace hf13_1 := hf13_1.step hst
      replace hf22_1 := hf22_1.step (plain_int _) he43 nn2
      replace hf22_2 := hf22_2.step (plain_int _) he43 nn2
      replace hf26_1 := hf26_1.step hst
      replace hf26_2 := hf26_2.step hst
      replace ho30 := ho30.step hst he43 nn2
      replace hb40 := he43.box hb40 nn
      replace hms := hms.ev he43
      replace hev := hev.ext he43
      have hs43 : SlR (eInt .i64) w43 (fl [[b40], [b9], [b15], B2_22, B5_22, blk a31_l36, M]) (some ⟨b43, 0, none⟩) 1 ([t92__s92_l36]) := ro_of_box hms0 hq43 hb43 rfl rfl (cells_at (cs := [.int .i64 t92__s92_l36]) (CellsOf.cons (c := [.int .i64 t92__s92_l36]) rfl CellsOf.nil))
      clear hb43 hms0
      have hg := guard_l h
      replace h := guard_r h
      obtain ⟨a45, c45, w45, hr45, he45, hn45, hm45, hw45⟩ := own_appendN tel22 22 ho30 (mem_flat 5 rfl) hs43 hg
      refine x_builtin (vs := [.slice a31_l36 (d31_l36).length c31_l36, .slice (some ⟨b43, 0, none⟩) ([t92__s92_l36]).length 1]) _ w45 rfl rfl rfl rfl (run_value _ _ _ _ hr45) ?_
      refine ⟨.inl rfl, ?_⟩
      have hst : Stp (fl [[b40], [b9], [b15], B2_22, B5_22, blk a31_l36, M]) w43 (fl [[b40], [b9], [b15], B2_22, B5_22, blk a45, M]) w45 := Stp.upd 5 he45 rfl (fun b hb => (hn45 b hb).1)
      replace hb9 := he45.box hb9 (hms.apart 1 5 rfl rfl rfl _ (List.mem_singleton.2 rfl))
      replace hf7_1 := hf7_1.step hst
      replace hb15 := he45.box hb15 (hms.apart 2 5 rfl rfl rfl _ (List.mem_singleton.2 rfl))
      replace hf13_1 := hf13_1.step hst
      replace hf22_1 := hf22_1.step (plain_int _) he45 (hms.apart 3 5 rfl rfl rfl)
      replace hf22_2 := hf22_2.step (plain_int _) he45 (hms.apart 4 5 rfl rfl rfl)
      replace hf26_1 := hf26_1.step hst
      replace hf26_2 := hf26_2.step hst
      replace hb40 := he45.box hb40 (hms.apart 0 5 rfl rfl rfl _ (List.mem_singleton.2 rfl))
      replace hs43 := hs43.step hst
      replace hms : MS w45 [[b40], [b9], [b15], B2_22, B5_22, blk a45, M] := hms.upd 5 he45 rfl hn45
      have hfr2 : FR w.heap.size [[b40], [b9], [b15], B2_22, B5_22, blk a45] := hfr.upd 5 rfl hev.size (fun b hb => (hn45 b hb).1)
      replace hev := hev.then he45 (fun b hb => .inr (hfr.at 5 rfl b hb))
      replace hfr := hfr2
      clear hfr2
      replace ho30 := hw45 (fl [[b40], [b9], [b15], B2_22, B5_22, blk a45, M]) hst.new
      clear hw45
      refine x_pure 1 [(14, .slice a45 ((d31_l36 ++ [t92__s92_l36])).length c45)] _ _ _ (by kernel_rfl) ?_
      refine x_end rfl ?_
      refine k_block ?_
      refine k_then ?_
      refine c_norm [(1, .int .i64 (IntKind.i64.wrap (1 + (Int.tmod (IntKind.i64.wrap ((Int.tmod p1 x12.1.1) + x12.1.1)) x12.1.1)))), (6, .pointer (some ⟨b9, 0, none⟩)), (7, .pointer (some ⟨b15, 0, none⟩)), (8, .slice a0_22 (x21.1).length c0_22), (9, .slice a3_22 (x21.2.1).length c3_22), (11, .slice a0_26 (x25.1).length c0_26), (12, .slice a3_26 (x25.2.1).length c3_26), (14, .slice a45 ((d31_l36 ++ [t92__s92_l36])).length c45), (90, .slice a0_7 (x6.1.1).length c0_7), (91, .int .i64 ((x6.1.1).length : Int)), (92, .int .i64 t92__s92_l36)] ⟨rfl, rfl, rfl, rfl, rfl, rfl, rfl, rfl, rfl, rfl, rfl, trivial⟩ (fun J => ?_)
      refine c_plain ?_
      refine x_pure 2 [(105, .int .i64 (IntKind.i64.wrap (t92__s92_l36 + 1))), (92, .int .i64 (IntKind.i64.wrap (t92__s92_l36 + 1)))] _ _ _ (by kernel_rfl) ?_
      refine x_end rfl ?_
      have hx := some_inj h
      subst hx
      have hpk : MS w45 [[b9], [b15], B2_22, B5_22, blk a45, M] := hms.pick [some 1, some 2, some 3, some 4, some 5, some 6] _ rfl
      have hsu : ∀ x ∈ fl [[b9], [b15], B2_22, B5_22, blk a45, M], x ∈ fl [[b40], [b9], [b15], B2_22, B5_22, blk a45, M] := pick_sub [some 1, some 2, some 3, some 4, some 5, some 6] _ rfl
      replace hf7_1 := hf7_1.sub hsu
      replace hf13_1 := hf13_1.sub hsu
      replace hf26_1 := hf26_1.sub hsu
      replace hf26_2 := hf26_2.sub hsu
      replace ho30 := ho30.sub hsu
      replace hms := hpk
      replace hfr : FR w.heap.size [[b9], [b15], B2_22, B5_22, blk a45] := hfr.pick [some 1, some 2, some 3, some 4, some 5] _ rfl
      clear hpk hsu
      exact k_then ⟨(m36, (d31_l36 ++ [t92__s92_l36]), IntKind.i64.wrap (t92__s92_l36 + 1), a45, c45), ⟨rfl, rfl, rfl, rfl, rfl, rfl, rfl, rfl, rfl, rfl, rfl, trivial⟩, ⟨hn36, hev, hms, hfr, hf7_1, hb9, hf13_1, hb15, hf22_1, hf22_2, hf26_1, hf26_2, ho30⟩, Nat.lt_succ_self _⟩
    replace h := ite_f hb h
    refine c_skip ?_
    refine k_block ?_
    refine k_then ?_
    refine c_plain ?_
    refine x_pure 2 [(105, .int .i64 (IntKind.i64.wrap (t92__s92_l36 + 1))), (92, .int .i64 (IntKind.i64.wrap (t92__s92_l36 + 1)))] _ _ _ (by kernel_rfl) ?_
    refine x_end rfl ?_
    have hx := some_inj h
    subst hx
    have hpk : MS w42 [[b9], [b15], B2_22, B5_22, blk a31_l36, M] := hms.pick [some 1, some 2, some 3, some 4, some 5, some 6] _ rfl
    have hsu : ∀ x ∈ fl [[b9], [b15], B2_22, B5_22, blk a31_l36, M], x ∈ fl [[b40], [b9], [b15], B2_22, B5_22, blk a31_l36, M] := pick_sub [some 1, some 2, some 3, some 4, some 5, some 6] _ rfl
    replace hf7_1 := hf7_1.sub hsu
    replace hf13_1 := hf13_1.sub hsu
    replace hf26_1 := hf26_1.sub hsu
    replace hf26_2 := hf26_2.sub hsu
    replace ho30 := ho30.sub hsu
    replace hms := hpk
    replace hfr : FR w.heap.size [[b9], [b15], B2_22, B5_22, blk a31_l36] := hfr.pick [some 1, some 2, some 3, some 4, some 5] _ rfl
    clear hpk hsu
    exact k_then ⟨(m36, d31_l36, IntKind.i64.wrap (t92__s92_l36 + 1), a31_l36, c31_l36), ⟨rfl, rfl, rfl, rfl, rfl, rfl, rfl, rfl, rfl, rfl, rfl, trivial⟩, ⟨hn36, hev, hms, hfr, hf7_1, hb9, hf13_1, hb15, hf22_1, hf22_2, hf26_1, hf26_2, ho30⟩, Nat.lt_succ_self _⟩
  replace h := ite_f hb h
  refine c_exit ?_
  refine k_then_exit ?_
  have hx := some_inj h
  subst hx
  have hy := some_inj hn36
  subst hy
  replace h := h36
  refine k_then_exit ?_
  refine k_block_in ?_
  refine k_then ?_
  refine c_norm [(1, .int .i64 (IntKind.i64.wrap (1 + (Int.tmod (IntKind.i64.wrap ((Int.tmod p1 x12.1.1) + x12.1.1)) x12.1.1)))), (6, .pointer (some ⟨b9, 0, none⟩)), (7, .pointer (some ⟨b15, 0, none⟩)), (8, .slice a0_22 (x21.1).length c0_22), (9, .slice a3_22 (x21.2.1).length c3_22), (11, .slice a0_26 (x25.1).length c0_26), (12, .slice a3_26 (x25.2.1).length c3_26), (14, .slice a31_l36 (d31_l36).length c31_l36)] ⟨rfl, rfl, rfl, rfl, rfl, rfl, rfl, rfl, trivial⟩ (fun J => ?_)
  refine c_seq (c_plain ?_)
  refine x_pure 3 [(106, .slice a0_22 (x21.1).length c0_22), (107, .int .i64 (IntKind.i64.wrap (1 + (Int.tmod (IntKind.i64.wrap ((Int.tmod p1 x12.1.1) + x12.1.1)) x12.1.1)))), (108, .int .i64 (IntKind.i64.wrap ((IntKind.i64.wrap (1 + (Int.tmod (IntKind.i64.wrap ((Int.tmod p1 x12.1.1) + x12.1.1)) x12.1.1))) - 1)))] _ _ _ (by kernel_rfl) ?_
  obtain ⟨x46, hx46, h⟩ := bind_some h
  obtain ⟨g46, ai46, ci46, hr46, hv46⟩ := OwnR.view (P := Try.prog) (Mo := []) tsl32 hf22_1 hx46
  refine x_indexAddr (xv := .slice a0_22 (x21.1).length c0_22) (yv := .int .i64 (IntKind.i64.wrap ((IntKind.i64.wrap (1 + (Int.tmod (IntKind.i64.wrap ((Int.tmod p1 x12.1.1) + x12.1.1)) x12.1.1))) - 1))) (.pointer (some ⟨g46, (Int.toNat (IntKind.i64.wrap ((IntKind.i64.wrap (1 + (Int.tmod (IntKind.i64.wrap ((Int.tmod p1 x12.1.1) + x12.1.1)) x12.1.1))) - 1))), none⟩)) rfl rfl rfl rfl hr46 ?_
  obtain ⟨B48, hR48, ho48, hs1, hs2, hs3⟩ := OwnR.opn hf22_1 hv46
  replace hf22_1 := hR48
  have hms2 := hms.split 2 rfl hs2 hs1 hs3
  have hsu : ∀ x ∈ fl [blk ai46, [b9], [b15], B48, B5_22, blk a31_l36, M], x ∈ fl [[b9], [b15], B2_22, B5_22, blk a31_l36, M] := split_sub (ls := [[b9], [b15], B2_22, B5_22, blk a31_l36, M]) 2 rfl hs2 hs1
  replace hms : MS wl36 [blk ai46, [b9], [b15], B48, B5_22, blk a31_l36, M] := hms2
  replace hfr : FR w.heap.size [blk ai46, [b9], [b15], B48, B5_22, blk a31_l36] := (hfr.upd 2 rfl hev.size (fun b hb => .inl (hs1 b hb))).push (fun b hb => hfr.at 2 rfl b (hs2 b hb))
  replace hf7_1 := hf7_1.sub hsu
  replace hf13_1 := hf13_1.sub hsu
  replace hf26_1 := hf26_1.sub hsu
  replace hf26_2 := hf26_2.sub hsu
  replace ho30 := ho30.sub hsu
  replace ho48 := OwnS.plain (M' := fl [blk ai46, [b9], [b15], B48, B5_22, blk a31_l36, M]) (plain_int _) ho48
  have hg48 := hv46.eq
  have hx48 := hv46.at_
  clear hv46 hms2 hs1 hs2 hs3 hsu
  obtain ⟨w50, B50, hr50, he50, hn50, hR50⟩ := OwnR.cls (P := Try.prog) (plain_int _) tcell22 hf22_1 hg48 hx48 (OwnS.nil (eInt .i64) 3 wl36 []) (fun x hx => by cases hx) (hms.ltat 3 rfl)
  refine x_store w50 (xv := .pointer (some ⟨g46, (Int.toNat (IntKind.i64.wrap ((IntKind.i64.wrap (1 + (Int.tmod (IntKind.i64.wrap ((Int.tmod p1 x12.1.1) + x12.1.1)) x12.1.1))) - 1))), none⟩)) (yv := .slice none 0 0) rfl rfl rfl rfl hr50 ?_
  refine ⟨.inl rfl, ?_⟩
  have hst : Stp (fl [blk ai46, [b9], [b15], B48, B5_22, blk a31_l36, M]) wl36 (fl [blk ai46, [b9], [b15], B50, B5_22, blk a31_l36, M]) w50 := Stp.upd 3 he50 rfl (fun b hb => (hn50 b hb).1)
  replace hb9 := he50.box hb9 (hms.apart 1 3 rfl rfl rfl _ (List.mem_singleton.2 rfl))
  replace hf7_1 := hf7_1.step hst
  replace hb15 := he50.box hb15 (hms.apart 2 3 rfl rfl rfl _ (List.mem_singleton.2 rfl))
  replace hf13_1 := hf13_1.step hst
  replace hf22_2 := hf22_2.step (plain_int _) he50 (hms.apart 4 3 rfl rfl rfl)
  replace hf26_1 := hf26_1.step hst
  replace hf26_2 := hf26_2.step hst
  replace ho30 := ho30.step hst he50 (hms.apart 5 3 rfl rfl rfl)
  replace ho48 := ho48.step hst he50 (hms.apart 0 3 rfl rfl rfl)
  replace hms : MS w50 [blk ai46, [b9], [b15], B50, B5_22, blk a31_l36, M] := hms.upd 3 he50 rfl hn50
  have hfr2 : FR w.heap.size [blk ai46, [b9], [b15], B50, B5_22, blk a31_l36] := hfr.upd 3 rfl hev.size (fun b hb => (hn50 b hb).1)
  replace hev := hev.then he50 (fun b hb => .inr (hfr.at 3 rfl b hb))
  replace hfr := hfr2
  clear hfr2
  replace hf22_1 := hR50
  have hsl : (Value.slice a0_22 (x21.1).length c0_22) = (Value.slice a0_22 ((x21.1.set (Int.toNat (IntKind.i64.wrap ((IntKind.i64.wrap (1 + (Int.tmod (IntKind.i64.wrap ((Int.tmod p1 x12.1.1) + x12.1.1)) x12.1.1))) - 1))) ([] : List Int))).length c0_22) := by rw [List.length_set]
  try rw [hsl]
  clear hsl
  refine x_end rfl (k_then ?_)
  refine c_seq ?_
  refine c_seq (c_plain ?_)
  refine x_pure 1 [(110, .slice a31_l36 (d31_l36).length c31_l36)] _ _ _ (by kernel_rfl) ?_
  refine x_len (vs := [.slice a31_l36 (d31_l36).length c31_l36]) (.int .i64 ((d31_l36).length : Int)) rfl rfl rfl (reads_len tsl22 _ _ _ _ _) ?_
  refine x_pure 1 [(112, .int .i64 0)] _ _ _ (by kernel_rfl) ?_
  refine x_end rfl (k_then ?_)
  refine c_block ?_
  have hpk : MS w50 [[b9], [b15], B50, B5_22, blk a31_l36, M] := hms.pick [some 1, some 2, some 3, some 4, some 5, some 6] _ rfl
  have hsu : ∀ x ∈ fl [[b9], [b15], B50, B5_22, blk a31_l36, M], x ∈ fl [blk ai46, [b9], [b15], B50, B5_22, blk a31_l36, M] := pick_sub [some 1, some 2, some 3, some 4, some 5, some 6] _ rfl
  replace hf7_1 := hf7_1.sub hsu
  replace hf13_1 := hf13_1.sub hsu
  replace hf26_1 := hf26_1.sub hsu
  replace hf26_2 := hf26_2.sub hsu
  replace ho30 := ho30.sub hsu
  replace hms := hpk
  replace hfr : FR w.heap.size [[b9], [b15], B50, B5_22, blk a31_l36] := hfr.pick [some 1, some 2, some 3, some 4, some 5] _ rfl
  clear hpk hsu
  obtain ⟨d52, hd52, h52⟩ := bind_some h
  obtain ⟨m52, hd52⟩ := loop_some hd52
  refine c_loop (loop_rule hmx (σ := Nat × (List (List Int)) × (List (List Int)) × Int × List Nat × List Nat × Option Addr) (fun s => match s with | (_, d23_l52, d24_l52, t112__s112_l52, B23_l52, B24_l52, a31_l52) => [(1, .int .i64 (IntKind.i64.wrap (1 + (Int.tmod (IntKind.i64.wrap ((Int.tmod p1 x12.1.1) + x12.1.1)) x12.1.1)))), (6, .pointer (some ⟨b9, 0, none⟩)), (7, .pointer (some ⟨b15, 0, none⟩)), (8, .slice a0_22 (d23_l52).length c0_22), (9, .slice a3_22 (d24_l52).length c3_22), (11, .slice a0_26 (x25.1).length c0_26), (12, .slice a3_26 (x25.2.1).length c3_26), (110, .slice a31_l52 (d31_l36).length c31_l36), (111, .int .i64 ((d31_l36).length : Int)), (112, .int .i64 t112__s112_l52)]) (fun s w' => match s with | (m, d23_l52, d24_l52, t112__s112_l52, B23_l52, B24_l52, a31_l52) => loopN (law14_RollinStep_L52 p1 x6 x12 d31_l36) m (d23_l52, d24_l52, t112__s112_l52) = some d52 ∧ Ev [] w w' ∧ MS w' [[b9], [b15], B23_l52, B24_l52, blk a31_l52, M] ∧ FR w.heap.size [[b9], [b15], B23_l52, B24_l52, blk a31_l52] ∧ SlR (eProd (eInt .i64) (eProd (eInt .i64) (eProd (eInt .i64) (eInt .i64)))) w' (fl [[b9], [b15], B23_l52, B24_l52, blk a31_l52, M]) a0_7 c0_7 x6.1.1 ∧ w'.heap[b9]? = some (.cells #[.slice a0_7 (x6.1.1).length c0_7, .int .i64 x6.1.2] 27 (0, 0)) ∧ SlR (eInt .i64) w' (fl [[b9], [b15], B23_l52, B24_l52, blk a31_l52, M]) a0_13 c0_13 x12.1.2 ∧ w'.heap[b15]? = some (.cells #[.int .i64 x12.1.1, .slice a0_13 (x12.1.2).length c0_13] 30 (0, 0)) ∧ OwnR (eInt .i64) 3 22 w' B23_l52 a0_22 c0_22 d23_l52 none ∧ OwnR (eInt .i64) 3 22 w' B24_l52 a3_22 c3_22 d24_l52 none ∧ SlR (eSl (eInt .i64)) w' (fl [[b9], [b15], B23_l52, B24_l52, blk a31_l52, M]) a0_26 c0_26 x25.1 ∧ SlR (eSl (eInt .i64)) w' (fl [[b9], [b15], B23_l52, B24_l52, blk a31_l52, M]) a3_26 c3_26 x25.2.1 ∧ OwnS (eInt .i64) 3 w' (fl [[b9], [b15], B23_l52, B24_l52, blk a31_l52, M]) a31_l52 c31_l36 d31_l36) (fun s => s.1) (m52, (x21.1.set (Int.toNat (IntKind.i64.wrap ((IntKind.i64.wrap (1 + (Int.tmod (IntKind.i64.wrap ((Int.tmod p1 x12.1.1) + x12.1.1)) x12.1.1))) - 1))) ([] : List Int)), x21.2.1, 0, B50, B5_22, a31_l36) ⟨rfl, rfl, rfl, rfl, rfl, rfl, rfl, rfl, rfl, rfl, trivial⟩ ⟨hd52, hev, hms, hfr, hf7_1, hb9, hf13_1, hb15, hf22_1, hf22_2, hf26_1, hf26_2, ho30⟩ ?_)
  rintro ⟨m52, d23_l52, d24_l52, t112__s112_l52, B23_l52, B24_l52, a31_l52⟩ J wl52 ⟨hn52, hev, hms, hfr, hf7_1, hb9, hf13_1, hb15, hf22_1, hf22_2, hf26_1, hf26_2, ho30⟩
  rcases m52 with _ | m52
  · exact (loopN_zero hn52).elim
  obtain ⟨t52, h, hn52⟩ := bind_some hn52
  refine c_seq (c_plain ?_)
  refine x_pure 1 [(113, .bool (decide (t112__s112_l52 < ((d31_l36).length : Int))))] _ _ _ (by kernel_rfl) ?_
  refine x_end rfl (k_then ?_)
  refine c_norm [(1, .int .i64 (IntKind.i64.wrap (1 + (Int.tmod (IntKind.i64.wrap ((Int.tmod p1 x12.1.1) + x12.1.1)) x12.1.1)))), (6, .pointer (some ⟨b9, 0, none⟩)), (7, .pointer (some ⟨b15, 0, none⟩)), (8, .slice a0_22 (d23_l52).length c0_22), (9, .slice a3_22 (d24_l52).length c3_22), (11, .slice a0_26 (x25.1).length c0_26), (12, .slice a3_26 (x25.2.1).length c3_26), (110, .slice a31_l52 (d31_l36).length c31_l36), (111, .int .i64 ((d31_l36).length : Int)), (112, .int .i64 t112__s112_l52), (113, .bool (decide (t112__s112_l52 < ((d31_l36).length : Int))))] ⟨rfl, rfl, rfl, rfl, rfl, rfl, rfl, rfl, rfl, rfl, rfl, trivial⟩ (fun J => ?_)
  refine c_seq ?_
  refine c_cond (decide (t112__s112_l52 < ((d31_l36).length : Int))) rfl (fun hb => ?_) (fun hb => ?_)
  · replace h := ite_t hb h
    refine c_skip ?_
    refine k_then ?_
    refine c_seq ?_
    refine c_block ?_
    refine c_seq (c_plain ?_)
    obtain ⟨x54, hx54, h⟩ := bind_some h
    obtain ⟨g54, cs54, ha, hr54, hc54, hR⟩ := own_index (Mo := []) tsl22 ho30 hx54
    subst ha
    obtain rfl := hR
    refine x_indexAddr (xv := .slice (some ⟨g54, 0, none⟩) (d31_l36).length c31_l36) (yv := .int .i64 t112__s112_l52) (.pointer (some ⟨g54, (Int.toNat t112__s112_l52) * (eInt .i64).n, none⟩)) rfl rfl rfl rfl hr54 ?_
    refine x_load (xv := .pointer (some ⟨g54, (Int.toNat t112__s112_l52) * (eInt .i64).n, none⟩)) (.int .i64 x54) rfl rfl rfl (reads_cell0 tcell3 hc54 (fun _ h => by cases h)) ?_
    refine x_pure 1 [(18, .int .i64 x54)] _ _ _ (by kernel_rfl) ?_
    refine x_end rfl (k_then ?_)
    refine c_seq ?_
    refine c_seq (c_plain ?_)
    refine x_pure 3 [(116, .int .i64 x54), (117, .bool (decide (x54 < 0))), (118, .bool (decide (x54 < 0)))] _ _ _ (by kernel_rfl) ?_
    refine x_split 118 (decide (x54 < 0)) rfl (fun hb => ?_) (fun hb => ?_)
    · replace h := ite_t hb h
      refine x_pure 17 [(119, undef), (120, undef), (121, undef), (122, undef), (123, undef), (124, .bool true), (125, .bool true), (126, undef), (127, undef), (128, undef), (129, undef), (130, undef), (131, undef), (132, undef), (133, undef), (134, undef), (135, .bool true)] _ _ _ (by kernel_rfl) ?_
      refine x_end rfl (k_then ?_)
      refine c_norm [(1, .int .i64 (IntKind.i64.wrap (1 + (Int.tmod (IntKind.i64.wrap ((Int.tmod p1 x12.1.1) + x12.1.1)) x12.1.1)))), (6, .pointer (some ⟨b9, 0, none⟩)), (7, .pointer (some ⟨b15, 0, none⟩)), (8, .slice a0_22 (d23_l52).length c0_22), (9, .slice a3_22 (d24_l52).length c3_22), (11, .slice a0_26 (x25.1).length c0_26), (12, .slice a3_26 (x25.2.1).length c3_26), (18, .int .i64 x54), (110, .slice (some ⟨g54, 0, none⟩) (d31_l36).length c31_l36), (111, .int .i64 ((d31_l36).length : Int)), (112, .int .i64 t112__s112_l52), (135, .bool true)] ⟨rfl, rfl, rfl, rfl, rfl, rfl, rfl, rfl, rfl, rfl, rfl, rfl, trivial⟩ (fun J => ?_)
      refine c_true rfl ?_
      refine c_seq (c_plain ?_)
      refine x_pure 1 [(4, .bool false)] _ _ _ (by kernel_rfl) ?_
      refine x_end rfl (k_then ?_)
      refine c_ret ?_
      refine k_then_ret ?_
      refine k_block_ret ?_
      refine k_then_ret ?_
      have hx := some_inj h
      subst hx
      have hy := some_inj hn52
      subst hy
      replace h := h52
      refine k_then_ret ?_
      refine k_block_ret ?_
      refine k_then_ret ?_
      refine r_ret (r_vals [.bool false] ⟨rfl, trivial⟩ ?_)
      have hx := some_inj h
      subst hx
      have hmr : MS wl52 [M] := hms.pick [some 5] _ rfl
      have hsu : ∀ x ∈ fl [M], x ∈ fl [[b9], [b15], B23_l52, B24_l52, blk (some ⟨g54, 0, none⟩), M] := pick_sub [some 5] _ rfl
      exact ⟨rfl, hev⟩
    replace h := ite_f hb h
    refine x_pure 1 [(119, .int .i64 x54)] _ _ _ (by kernel_rfl) ?_
    refine x_fieldAddr (xv := .pointer (some ⟨b9, 0, none⟩)) (.pointer (some ⟨b9, 0, none⟩)) rfl rfl rfl (reads_field tfld27_0 _ _) ?_
    refine x_load (xv := .pointer (some ⟨b9, 0, none⟩)) (.slice a0_7 (x6.1.1).length c0_7) rfl rfl rfl (reads_box tcell25 hb9 nn 0 _ rfl) ?_
    refine x_len (vs := [.slice a0_7 (x6.1.1).length c0_7]) (.int .i64 ((x6.1.1).length : Int)) rfl rfl rfl (reads_len tsl25 _ _ _ _ _) ?_
    refine x_pure 3 [(123, .bool (decide (x54 ≥ ((x6.1.1).length : Int)))), (124, .bool (decide (x54 ≥ ((x6.1.1).length : Int)))), (125, .bool (decide (x54 ≥ ((x6.1.1).length : Int))))] _ _ _ (by kernel_rfl) ?_
    refine x_split 125 (decide (x54 ≥ ((x6.1.1).length : Int))) rfl (fun hb => ?_) (fun hb => ?_)
    · replace h := ite_t hb h
      refine x_pure 10 [(126, undef), (127, undef), (128, undef), (129, undef), (130, undef), (131, undef), (132, undef), (133, undef), (134, undef), (135, .bool true)] _ _ _ (by kernel_rfl) ?_
      refine x_end rfl (k_then ?_)
      refine c_norm [(1, .int .i64 (IntKind.i64.wrap (1 + (Int.tmod (IntKind.i64.wrap ((Int.tmod p1 x12.1.1) + x12.1.1)) x12.1.1)))), (6, .pointer (some ⟨b9, 0, none⟩)), (7, .pointer (some ⟨b15, 0, none⟩)), (8, .slice a0_22 (d23_l52).length c0_22), (9, .slice a3_22 (d24_l52).length c3_22), (11, .slice a0_26 (x25.1).length c0_26), (12, .slice a3_26 (x25.2.1).length c3_26), (18, .int .i64 x54), (110, .slice (some ⟨g54, 0, none⟩) (d31_l36).length c31_l36), (111, .int .i64 ((d31_l36).length : Int)), (112, .int .i64 t112__s112_l52), (135, .bool true)] ⟨rfl, rfl, rfl, rfl, rfl, rfl, rfl, rfl, rfl, rfl, rfl, rfl, trivial⟩ (fun J => ?_)
      refine c_true rfl ?_
      refine c_seq (c_plain ?_)
      refine x_pure 1 [(4, .bool false)] _ _ _ (by kernel_rfl) ?_
      refine x_end rfl (k_then ?_)
      refine c_ret ?_
      refine k_then_ret ?_
      refine k_block_ret ?_
      refine k_then_ret ?_
      have hx := some_inj h
      subst hx
      have hy := some_inj hn52
      subst hy
      replace h := h52
      refine k_then_ret ?_
      refine k_block_ret ?_
      refine k_then_ret ?_
      refine r_ret (r_vals [.bool false] ⟨rfl, trivial⟩ ?_)
      have hx := some_inj h
      subst hx
      have hmr : MS wl52 [M] := hms.pick [some 5] _ rfl
      have hsu : ∀ x ∈ fl [M], x ∈ fl [[b9], [b15], B23_l52, B24_l52, blk (some ⟨g54, 0, none⟩), M] := pick_sub [some 5] _ rfl
      exact ⟨rfl, hev⟩
    replace h := ite_f hb h
    refine x_fieldAddr (xv := .pointer (some ⟨b9, 0, none⟩)) (.pointer (some ⟨b9, 0, none⟩)) rfl rfl rfl (reads_field tfld27_0 _ _) ?_
    refine x_load (xv := .pointer (some ⟨b9, 0, none⟩)) (.slice a0_7 (x6.1.1).length c0_7) rfl rfl rfl (reads_box tcell25 hb9 nn 0 _ rfl) ?_
    refine x_pure 1 [(128, .int .i64 x54)] _ _ _ (by kernel_rfl) ?_
    obtain ⟨x57, hx57, h⟩ := bind_some h
    obtain ⟨ad57, cs57, hr57, hc57, hR⟩ := reads_index (Mo := []) tsl25 hf7_1 hx57
    obtain ⟨_, _, rfl, rfl, ⟨_, _, rfl, rfl, ⟨_, _, rfl, rfl, rfl⟩⟩⟩ := hR
    refine x_indexAddr (xv := .slice a0_7 (x6.1.1).length c0_7) (yv := .int .i64 x54) (.pointer (some ad57)) rfl rfl rfl rfl hr57 ?_
    refine x_fieldAddr (xv := .pointer (some ad57)) (.pointer (some (Addr.add ad57 0))) rfl rfl rfl (reads_field tfld39_0 _ _) ?_
    refine x_load (xv := .pointer (some (Addr.add ad57 0))) (.int .i64 x57.1) rfl rfl rfl (reads_cell tcell3 hc57 (fun _ h => by cases h) 0 _ rfl) ?_
    refine x_pure 1 [(132, .slice a3_22 (d24_l52).length c3_22)] _ _ _ (by kernel_rfl) ?_
    refine x_len (vs := [.slice a3_22 (d24_l52).length c3_22]) (.int .i64 ((d24_l52).length : Int)) rfl rfl rfl (reads_len tsl32 _ _ _ _ _) ?_
    refine x_pure 2 [(134, .bool (decide (x57.1 ≥ ((d24_l52).length : Int)))), (135, .bool (decide (x57.1 ≥ ((d24_l52).length : Int))))] _ _ _ (by kernel_rfl) ?_
    refine x_end rfl (k_then ?_)
    refine c_norm [(1, .int .i64 (IntKind.i64.wrap (1 + (Int.tmod (IntKind.i64.wrap ((Int.tmod p1 x12.1.1) + x12.1.1)) x12.1.1)))), (6, .pointer (some ⟨b9, 0, none⟩)), (7, .pointer (some ⟨b15, 0, none⟩)), (8, .slice a0_22 (d23_l52).length c0_22), (9, .slice a3_22 (d24_l52).length c3_22), (11, .slice a0_26 (x25.1).length c0_26), (12, .slice a3_26 (x25.2.1).length c3_26), (18, .int .i64 x54), (110, .slice (some ⟨g54, 0, none⟩) (d31_l36).length c31_l36), (111, .int .i64 ((d31_l36).length : Int)), (112, .int .i64 t112__s112_l52), (135, .bool (decide (x57.1 ≥ ((d24_l52).length : Int))))] ⟨rfl, rfl, rfl, rfl, rfl, rfl, rfl, rfl, rfl, rfl, rfl, rfl, trivial⟩ (fun J => ?_)
    refine c_cond (decide (x57.1 ≥ ((d24_l52).length : Int))) rfl (fun hb => ?_) (fun hb => ?_)
    · replace h := ite_t hb h
      refine c_seq (c_plain ?_)
      refine x_pure 1 [(4, .bool false)] _ _ _ (by kernel_rfl) ?_
      refine x_end rfl (k_then ?_)
      refine c_ret ?_
      refine k_then_ret ?_
      refine k_block_ret ?_
      refine k_then_ret ?_
      have hx := some_inj h
      subst hx
      have hy := some_inj hn52
      subst hy
      replace h := h52
      refine k_then_ret ?_
      refine k_block_ret ?_
      refine k_then_ret ?_
      refine r_ret (r_vals [.bool false] ⟨rfl, trivial⟩ ?_)
      have hx := some_inj h
      subst hx
      have hmr : MS wl52 [M] := hms.pick [some 5] _ rfl
      have hsu : ∀ x ∈ fl [M], x ∈ fl [[b9], [b15], B23_l52, B24_l52, blk (some ⟨g54, 0, none⟩), M] := pick_sub [some 5] _ rfl
      exact ⟨rfl, hev⟩
    replace h := ite_f hb h
    refine c_skip ?_
    refine k_then ?_
    refine c_seq ?_
    refine c_drawn [] [(0, false), (1, false), (2, false), (3, false), (4, false), (5, false), (6, false), (7, false), (8, false), (9, false), (10, false), (11, false), (12, false), (13, false), (14, false), (15, false), (16, false)] _ (by kernel_rfl) rfl ?_
    have hst := Stp.ext (ls := [[b9], [b15], B23_l52, B24_l52, blk (some ⟨g54, 0, none⟩), M]) (Ev.drew wl52)
    replace hb9 := (Ev.drew wl52).box hb9 nn
    replace hf7_1 := hf7_1.step hst
    replace hb15 := (Ev.drew wl52).box hb15 nn
    replace hf13_1 := hf13_1.step hst
    replace hf22_1 := hf22_1.step (plain_int _) (Ev.drew wl52) nn2
    replace hf22_2 := hf22_2.step (plain_int _) (Ev.drew wl52) nn2
    replace hf26_1 := hf26_1.step hst
    replace hf26_2 := hf26_2.step hst
    replace ho30 := ho30.step hst (Ev.drew wl52) nn2
    replace hms := hms.ev (Ev.drew wl52)
    replace hev := hev.ext (Ev.drew wl52)
    refine x_fieldAddr (xv := .pointer (some ⟨b15, 0, none⟩)) (.pointer (some ⟨b15, 1, none⟩)) rfl rfl rfl (reads_field tfld30_1 _ _) ?_
    refine x_load (xv := .pointer (some ⟨b15, 1, none⟩)) (.slice a0_13 (x12.1.2).length c0_13) rfl rfl rfl (reads_box tcell22 hb15 nn 1 _ rfl) ?_
    refine x_pure 1 [(139, .int .i64 x54)] _ _ _ (by kernel_rfl) ?_
    obtain ⟨x59, hx59, h⟩ := bind_some h
    obtain ⟨ad59, cs59, hr59, hc59, hR⟩ := reads_index (Mo := []) tsl22 hf13_1 hx59
    obtain rfl := hR
    refine x_indexAddr (xv := .slice a0_13 (x12.1.2).length c0_13) (yv := .int .i64 x54) (.pointer (some ad59)) rfl rfl rfl rfl hr59 ?_
    refine x_load (xv := .pointer (some ad59)) (.int .i64 x59) rfl rfl rfl (reads_cell0 tcell3 hc59 (fun _ h => by cases h)) ?_
    refine x_fieldAddr (xv := .pointer (some ⟨b9, 0, none⟩)) (.pointer (some ⟨b9, 0, none⟩)) rfl rfl rfl (reads_field tfld27_0 _ _) ?_
    refine x_load (xv := .pointer (some ⟨b9, 0, none⟩)) (.slice a0_7 (x6.1.1).length c0_7) rfl rfl rfl (reads_box tcell25 hb9 nn 0 _ rfl) ?_
    refine x_pure 1 [(144, .int .i64 x54)] _ _ _ (by kernel_rfl) ?_
    obtain ⟨x61, hx61, h⟩ := bind_some h
    obtain ⟨ad61, cs61, hr61, hc61, hR⟩ := reads_index (Mo := []) tsl25 hf7_1 hx61
    obtain ⟨_, _, rfl, rfl, ⟨_, _, rfl, rfl, ⟨_, _, rfl, rfl, rfl⟩⟩⟩ := hR
    refine x_indexAddr (xv := .slice a0_7 (x6.1.1).length c0_7) (yv := .int .i64 x54) (.pointer (some ad61)) rfl rfl rfl rfl hr61 ?_
    refine x_fieldAddr (xv := .pointer (some ad61)) (.pointer (some (Addr.add ad61 2))) rfl rfl rfl (reads_field tfld39_2 _ _) ?_
    refine x_load (xv := .pointer (some (Addr.add ad61 2))) (.int .i64 x61.2.2.1) rfl rfl rfl (reads_cell tcell3 hc61 (fun _ h => by cases h) 2 _ rfl) ?_
    obtain ⟨x63, hx, h⟩ := bind_some h
    have hpk : MS (wl52).drew ([] ++ [[b9], [b15], B23_l52, B24_l52, blk (some ⟨g54, 0, none⟩), M]) := hms.pick [some 0, some 1, some 2, some 3, some 4, some 5] _ rfl
    have hsb0 : ∀ x ∈ fl ([] ++ [[b9], [b15], B23_l52, B24_l52, blk (some ⟨g54, 0, none⟩), M]), x ∈ fl [[b9], [b15], B23_l52, B24_l52, blk (some ⟨g54, 0, none⟩), M] := pick_sub [some 0, some 1, some 2, some 3, some 4, some 5] _ rfl
    have hsb : ∀ x ∈ fl ([] ++ [(fl [[b9], [b15], B23_l52, B24_l52, blk (some ⟨g54, 0, none⟩), M])]), x ∈ fl [[b9], [b15], B23_l52, B24_l52, blk (some ⟨g54, 0, none⟩), M] := fun x hx => hsb0 x (fl_unfold x hx)
    have hcall := r12_Real_w x59 x61.2.2.1 _ (wl52).drew (fl [[b9], [b15], B23_l52, B24_l52, blk (some ⟨g54, 0, none⟩), M]) (MS.fold (P := []) hpk)  hx
    refine x_call 18 #[] #[] [.int .i64 x59, .int .i64 x61.2.2.1] _ rfl rfl rfl rfl hcall ?_
    rintro v w64 ⟨a0_64, c0_64, rfl, he64, hmn64, hfn64, hf64_1⟩
    clear hcall hx
    refine ⟨.inr he64, ?_⟩
    have hpk2 : MS (wl52).drew ([] ++ [[b9], [b15], B23_l52, B24_l52, blk (some ⟨g54, 0, none⟩), M]) := hms.pick [some 0, some 1, some 2, some 3, some 4, some 5] _ rfl
    have hsb2 : ∀ x ∈ fl ([] ++ [[b9], [b15], B23_l52, B24_l52, blk (some ⟨g54, 0, none⟩), M]), x ∈ fl [[b9], [b15], B23_l52, B24_l52, blk (some ⟨g54, 0, none⟩), M] := pick_sub [some 0, some 1, some 2, some 3, some 4, some 5] _ rfl
    have hst0 := Stp.call (LS := [[b9], [b15], B23_l52, B24_l52, blk (some ⟨g54, 0, none⟩), M]) (res := [blk a0_64]) (par := []) (R := [[b9], [b15], B23_l52, B24_l52, blk (some ⟨g54, 0, none⟩), M]) he64 (fun b hb => hsb2 b (fl_left' (P := []) b hb)) hfn64 (NP.init _ _) (fun x hx => hsb2 x (fl_right' (P := []) x hx))
    have hsn : ∀ x ∈ fl [blk a0_64, [b9], [b15], B23_l52, B24_l52, blk (some ⟨g54, 0, none⟩), M], x ∈ fl ([blk a0_64] ++ ([] ++ [[b9], [b15], B23_l52, B24_l52, blk (some ⟨g54, 0, none⟩), M])) := pick_sub [some 0, some 1, some 2, some 3, some 4, some 5, some 6] _ rfl
    have hst := hst0.res hsn
    replace hb9 := he64.box hb9 ((MS.outs (P := []) hpk2 0 rfl) _ (List.mem_singleton.2 rfl))
    replace hf7_1 := hf7_1.step hst
    replace hb15 := he64.box hb15 ((MS.outs (P := []) hpk2 1 rfl) _ (List.mem_singleton.2 rfl))
    replace hf13_1 := hf13_1.step hst
    replace hf22_1 := hf22_1.step (plain_int _) he64 (MS.outs (P := []) hpk2 2 rfl)
    replace hf22_2 := hf22_2.step (plain_int _) he64 (MS.outs (P := []) hpk2 3 rfl)
    replace hf26_1 := hf26_1.step hst
    replace hf26_2 := hf26_2.step hst
    replace ho30 := ho30.step hst he64 (MS.outs (P := []) hpk2 4 rfl)
    replace hc59 := hc59.step hst
    replace hc61 := hc61.step hst
    replace hms : MS w64 [blk a0_64, [b9], [b15], B23_l52, B24_l52, blk (some ⟨g54, 0, none⟩), M] := (MS.call (P := []) (R := [[b9], [b15], B23_l52, B24_l52, blk (some ⟨g54, 0, none⟩), M]) (res := [blk a0_64]) (par := []) hpk2 he64 hmn64 hfn64 (NP.init _ _)).pick [some 0, some 1, some 2, some 3, some 4, some 5, some 6] _ rfl
    have hfr2 : FR w.heap.size [blk a0_64, [b9], [b15], B23_l52, B24_l52, blk (some ⟨g54, 0, none⟩)] := (FR.cons (fun b hb => Nat.le_trans hev.size (hfn64.at 0 rfl b hb)) (FR.cons (hfr.at 0 rfl) (FR.cons (hfr.at 1 rfl) (FR.cons (hfr.at 2 rfl) (FR.cons (hfr.at 3 rfl) (FR.cons (hfr.at 4 rfl) (FR.nil _)))))))
    replace hev := hev.ext he64
    replace hfr := hfr2
    clear hfr2
    replace hf64_1 := OwnS.plain (M' := fl [blk a0_64, [b9], [b15], B23_l52, B24_l52, blk (some ⟨g54, 0, none⟩), M]) (plain_int _) hf64_1
    clear hpk hsb hsb0 hpk2 hsb2 hst0 hsn hst
    have hpk : MS w64 [[b9], [b15], B23_l52, B24_l52, blk (some ⟨g54, 0, none⟩), M] := hms.pick [some 1, some 2, some 3, some 4, some 5, some 6] _ rfl
    have hsu : ∀ x ∈ fl [[b9], [b15], B23_l52, B24_l52, blk (some ⟨g54, 0, none⟩), M], x ∈ fl [blk a0_64, [b9], [b15], B23_l52, B24_l52, blk (some ⟨g54, 0, none⟩), M] := pick_sub [some 1, some 2, some 3, some 4, some 5, some 6] _ rfl
    replace hf7_1 := hf7_1.sub hsu
    replace hf13_1 := hf13_1.sub hsu
    replace hf26_1 := hf26_1.sub hsu
    replace hf26_2 := hf26_2.sub hsu
    replace ho30 := ho30.sub hsu
    replace hc59 := hc59.sub hsu
    replace hc61 := hc61.sub hsu
    replace hf64_1 := hf64_1.ro hsu (pick_out hms 0 rfl [some 1, some 2, some 3, some 4, some 5, some 6] [[b9], [b15], B23_l52, B24_l52, blk (some ⟨g54, 0, none⟩), M] rfl rfl)
    replace hms := hpk
    replace hfr : FR w.heap.size [[b9], [b15], B23_l52, B24_l52, blk (some ⟨g54, 0, none⟩)] := hfr.pick [some 1, some 2, some 3, some 4, some 5] _ rfl
    clear hpk hsu
    refine x_pure 5 [(136, .tuple #[.slice a0_64 (x63.1).length c0_64, .int .i64 x63.2]), (149, .slice a0_64 (x63.1).length c0_64), (150, .int .i64 x63.2), (19, .slice a0_64 (x63.1).length c0_64), (20, .int .i64 x63.2)] _ _ _ (by kernel_rfl) ?_
    refine x_end rfl (k_then ?_)
    refine c_norm [(1, .int .i64 (IntKind.i64.wrap (1 + (Int.tmod (IntKind.i64.wrap ((Int.tmod p1 x12.1.1) + x12.1.1)) x12.1.1)))), (6, .pointer (some ⟨b9, 0, none⟩)), (7, .pointer (some ⟨b15, 0, none⟩)), (8, .slice a0_22 (d23_l52).length c0_22), (9, .slice a3_22 (d24_l52).length c3_22), (11, .slice a0_26 (x25.1).length c0_26), (12, .slice a3_26 (x25.2.1).length c3_26), (18, .int .i64 x54), (19, .slice a0_64 (x63.1).length c0_64), (20, .int .i64 x63.2), (110, .slice (some ⟨g54, 0, none⟩) (d31_l36).length c31_l36), (111, .int .i64 ((d31_l36).length : Int)), (112, .int .i64 t112__s112_l52)] ⟨rfl, rfl, rfl, rfl, rfl, rfl, rfl, rfl, rfl, rfl, rfl, rfl, rfl, trivial⟩ (fun J => ?_)
    refine c_seq ?_
    refine c_seq (c_plain ?_)
    refine x_pure 2 [(151, .int .i64 x63.2), (152, .bool (x63.2 != 0))] _ _ _ (by kernel_rfl) ?_
    refine x_end rfl (k_then ?_)
    refine c_cond (x63.2 != 0) rfl (fun hb => ?_) (fun hb => ?_)
    · replace h := ite_t hb h
      refine c_seq (c_plain ?_)
      refine x_pure 1 [(4, .bool false)] _ _ _ (by kernel_rfl) ?_
      refine x_end rfl (k_then ?_)
      refine c_ret ?_
      refine k_then_ret ?_
      refine k_block_ret ?_
      refine k_then_ret ?_
      have hx := some_inj h
      subst hx
      have hy := some_inj hn52
      subst hy
      replace h := h52
      refine k_then_ret ?_
      refine k_block_ret ?_
      refine k_then_ret ?_
      refine r_ret (r_vals [.bool false] ⟨rfl, trivial⟩ ?_)
      have hx := some_inj h
      subst hx
      have hmr : MS w64 [M] := hms.pick [some 5] _ rfl
      have hsu : ∀ x ∈ fl [M], x ∈ fl [[b9], [b15], B23_l52, B24_l52, blk (some ⟨g54, 0, none⟩), M] := pick_sub [some 5] _ rfl
      exact ⟨rfl, hev⟩
    replace h := ite_f hb h
    refine c_skip ?_
    refine k_then ?_
    refine c_seq (c_plain ?_)
    refine x_pure 1 [(21, .int .i64 (-1))] _ _ _ (by kernel_rfl) ?_
    refine x_end rfl (k_then ?_)
    refine c_seq ?_
    refine c_seq (c_plain ?_)
    refine x_pure 1 [(153, .slice a0_64 (x63.1).length c0_64)] _ _ _ (by kernel_rfl) ?_
    refine x_len (vs := [.slice a0_64 (x63.1).length c0_64]) (.int .i64 ((x63.1).length : Int)) rfl rfl rfl (reads_len tsl22 _ _ _ _ _) ?_
    refine x_pure 2 [(155, .int .i64 (IntKind.i64.wrap (((x63.1).length : Int) - 1))), (22, .int .i64 (IntKind.i64.wrap (((x63.1).length : Int) - 1)))] _ _ _ (by kernel_rfl) ?_
    refine x_end rfl (k_then ?_)
    refine c_block ?_
    obtain ⟨d68, hd68, h68⟩ := bind_some h
    obtain ⟨m68, hd68⟩ := loop_some hd68
    refine c_loop (loop_rule hmx (σ := Nat × Int × Int) (fun s => match s with | (_, to_s21_l68, i_s22_l68) => [(1, .int .i64 (IntKind.i64.wrap (1 + (Int.tmod (IntKind.i64.wrap ((Int.tmod p1 x12.1.1) + x12.1.1)) x12.1.1)))), (6, .pointer (some ⟨b9, 0, none⟩)), (7, .pointer (some ⟨b15, 0, none⟩)), (8, .slice a0_22 (d23_l52).length c0_22), (9, .slice a3_22 (d24_l52).length c3_22), (11, .slice a0_26 (x25.1).length c0_26), (12, .slice a3_26 (x25.2.1).length c3_26), (18, .int .i64 x54), (19, .slice a0_64 (x63.1).length c0_64), (21, .int .i64 to_s21_l68), (22, .int .i64 i_s22_l68), (110, .slice (some ⟨g54, 0, none⟩) (d31_l36).length c31_l36), (111, .int .i64 ((d31_l36).length : Int)), (112, .int .i64 t112__s112_l52)]) (fun s w' => match s with | (m, to_s21_l68, i_s22_l68) => loopN (law14_RollinStep_L68 p1 x12 x63) m (to_s21_l68, i_s22_l68) = some d68 ∧ Ev [] w w' ∧ MS w' [[b9], [b15], B23_l52, B24_l52, blk (some ⟨g54, 0, none⟩), M] ∧ FR w.heap.size [[b9], [b15], B23_l52, B24_l52, blk (some ⟨g54, 0, none⟩)] ∧ SlR (eProd (eInt .i64) (eProd (eInt .i64) (eProd (eInt .i64) (eInt .i64)))) w' (fl [[b9], [b15], B23_l52, B24_l52, blk (some ⟨g54, 0, none⟩), M]) a0_7 c0_7 x6.1.1 ∧ w'.heap[b9]? = some (.cells #[.slice a0_7 (x6.1.1).length c0_7, .int .i64 x6.1.2] 27 (0, 0)) ∧ SlR (eInt .i64) w' (fl [[b9], [b15], B23_l52, B24_l52, blk (some ⟨g54, 0, none⟩), M]) a0_13 c0_13 x12.1.2 ∧ w'.heap[b15]? = some (.cells #[.int .i64 x12.1.1, .slice a0_13 (x12.1.2).length c0_13] 30 (0, 0)) ∧ OwnR (eInt .i64) 3 22 w' B23_l52 a0_22 c0_22 d23_l52 none ∧ OwnR (eInt .i64) 3 22 w' B24_l52 a3_22 c3_22 d24_l52 none ∧ SlR (eSl (eInt .i64)) w' (fl [[b9], [b15], B23_l52, B24_l52, blk (some ⟨g54, 0, none⟩), M]) a0_26 c0_26 x25.1 ∧ SlR (eSl (eInt .i64)) w' (fl [[b9], [b15], B23_l52, B24_l52, blk (some ⟨g54, 0, none⟩), M]) a3_26 c3_26 x25.2.1 ∧ SlR (eInt .i64) w' (fl [[b9], [b15], B23_l52, B24_l52, blk (some ⟨g54, 0, none⟩), M]) a0_64 c0_64 x63.1 ∧ OwnS (eInt .i64) 3 w' (fl [[b9], [b15], B23_l52, B24_l52, blk (some ⟨g54, 0, none⟩), M]) (some ⟨g54, 0, none⟩) c31_l36 d31_l36) (fun s => s.1) (m68, (-1), IntKind.i64.wrap (((x63.1).length : Int) - 1)) ⟨rfl, rfl, rfl, rfl, rfl, rfl, rfl, rfl, rfl, rfl, rfl, rfl, rfl, rfl, trivial⟩ ⟨hd68, hev, hms, hfr, hf7_1, hb9, hf13_1, hb15, hf22_1, hf22_2, hf26_1, hf26_2, hf64_1, ho30⟩ ?_)
    rintro ⟨m68, to_s21_l68, i_s22_l68⟩ J wl68 ⟨hn68, hev, hms, hfr, hf7_1, hb9, hf13_1, hb15, hf22_1, hf22_2, hf26_1, hf26_2, hf64_1, ho30⟩
    rcases m68 with _ | m68
    · exact (loopN_zero hn68).elim
    obtain ⟨t68, h, hn68⟩ := bind_some hn68
    refine c_seq ?_
    refine c_seq (c_plain ?_)
    refine x_pure 2 [(156, .int .i64 i_s22_l68), (157, .bool (decide (i_s22_l68 ≥ 0)))] _ _ _ (by kernel_rfl) ?_
    refine x_end rfl (k_then ?_)
    refine c_norm [(1, .int .i64 (IntKind.i64.wrap (1 + (Int.tmod (IntKind.i64.wrap ((Int.tmod p1 x12.1.1) + x12.1.1)) x12.1.1)))), (6, .pointer (some ⟨b9, 0, none⟩)), (7, .pointer (some ⟨b15, 0, none⟩)), (8, .slice a0_22 (d23_l52).length c0_22), (9, .slice a3_22 (d24_l52).length c3_22), (11, .slice a0_26 (x25.1).length c0_26), (12, .slice a3_26 (x25.2.1).length c3_26), (18, .int .i64 x54), (19, .slice a0_64 (x63.1).length c0_64), (21, .int .i64 to_s21_l68), (22, .int .i64 i_s22_l68), (110, .slice (some ⟨g54, 0, none⟩) (d31_l36).length c31_l36), (111, .int .i64 ((d31_l36).length : Int)), (112, .int .i64 t112__s112_l52), (157, .bool (decide (i_s22_l68 ≥ 0)))] ⟨rfl, rfl, rfl, rfl, rfl, rfl, rfl, rfl, rfl, rfl, rfl, rfl, rfl, rfl, rfl, trivial⟩ (fun J => ?_)
    refine c_cond (decide (i_s22_l68 ≥ 0)) rfl (fun hb => ?_) (fun hb => ?_)
    · replace h := ite_t hb h
      refine c_skip ?_
      refine k_then ?_
      refine c_seq ?_
      refine c_block ?_
      refine c_seq (c_plain ?_)
      refine x_pure 2 [(160, .slice a0_64 (x63.1).length c0_64), (161, .int .i64 i_s22_l68)] _ _ _ (by kernel_rfl) ?_
      obtain ⟨x70, hx70, h⟩ := bind_some h
      obtain ⟨ad70, cs70, hr70, hc70, hR⟩ := reads_index (Mo := []) tsl22 hf64_1 hx70
      obtain rfl := hR
      refine x_indexAddr (xv := .slice a0_64 (x63.1).length c0_64) (yv := .int .i64 i_s22_l68) (.pointer (some ad70)) rfl rfl rfl rfl hr70 ?_
      refine x_load (xv := .pointer (some ad70)) (.int .i64 x70) rfl rfl rfl (reads_cell0 tcell3 hc70 (fun _ h => by cases h)) ?_
      refine x_pure 2 [(164, .int .i64 (IntKind.i64.wrap (1 + (Int.tmod (IntKind.i64.wrap ((Int.tmod p1 x12.1.1) + x12.1.1)) x12.1.1)))), (165, .bool (decide (x70 ≥ (IntKind.i64.wrap (1 + (Int.tmod (IntKind.i64.wrap ((Int.tmod p1 x12.1.1) + x12.1.1)) x12.1.1))))))] _ _ _ (by kernel_rfl) ?_
      refine x_end rfl (k_then ?_)
      refine c_cond (decide (x70 ≥ (IntKind.i64.wrap (1 + (Int.tmod (IntKind.i64.wrap ((Int.tmod p1 x12.1.1) + x12.1.1)) x12.1.1))))) rfl (fun hb => ?_) (fun hb => ?_)
      · replace h := ite_t hb h
        refine c_plain ?_
        refine x_pure 2 [(166, .slice a0_64 (x63.1).length c0_64), (167, .int .i64 i_s22_l68)] _ _ _ (by kernel_rfl) ?_
        obtain ⟨x72, hx72, h⟩ := bind_some h
        obtain ⟨ad72, cs72, hr72, hc72, hR⟩ := reads_index (Mo := []) tsl22 hf64_1 hx72
        obtain rfl := hR
        refine x_indexAddr (xv := .slice a0_64 (x63.1).length c0_64) (yv := .int .i64 i_s22_l68) (.pointer (some ad72)) rfl rfl rfl rfl hr72 ?_
        refine x_load (xv := .pointer (some ad72)) (.int .i64 x72) rfl rfl rfl (reads_cell0 tcell3 hc72 (fun _ h => by cases h)) ?_
        refine x_pure 1 [(21, .int .i64 x72)] _ _ _ (by kernel_rfl) ?_
        refine x_end rfl ?_
        refine k_block ?_
        refine k_then ?_
        refine c_plain ?_
        refine x_pure 3 [(158, .int .i64 i_s22_l68), (159, .int .i64 (IntKind.i64.wrap (i_s22_l68 - 1))), (22, .int .i64 (IntKind.i64.wrap (i_s22_l68 - 1)))] _ _ _ (by kernel_rfl) ?_
        refine x_end rfl ?_
        have hx := some_inj h
        subst hx
        exact k_then ⟨(m68, x72, IntKind.i64.wrap (i_s22_l68 - 1)), ⟨rfl, rfl, rfl, rfl, rfl, rfl, rfl, rfl, rfl, rfl, rfl, rfl, rfl, rfl, trivial⟩, ⟨hn68, hev, hms, hfr, hf7_1, hb9, hf13_1, hb15, hf22_1, hf22_2, hf26_1, hf26_2, hf64_1, ho30⟩, Nat.lt_succ_self _⟩
      replace h := ite_f hb h
      refine c_skip ?_
      refine k_block ?_
      refine k_then ?_
      refine c_plain ?_
      refine x_pure 3 [(158, .int .i64 i_s22_l68), (159, .int .i64 (IntKind.i64.wrap (i_s22_l68 - 1))), (22, .int .i64 (IntKind.i64.wrap (i_s22_l68 - 1)))] _ _ _ (by kernel_rfl) ?_
      refine x_end rfl ?_
      have hx := some_inj h
      subst hx
      exact k_then ⟨(m68, to_s21_l68, IntKind.i64.wrap (i_s22_l68 - 1)), ⟨rfl, rfl, rfl, rfl, rfl, rfl, rfl, rfl, rfl, rfl, rfl, rfl, rfl, rfl, trivial⟩, ⟨hn68, hev, hms, hfr, hf7_1, hb9, hf13_1, hb15, hf22_1, hf22_2, hf26_1, hf26_2, hf64_1, ho30⟩, Nat.lt_succ_self _⟩
    replace h := ite_f hb h
    refine c_exit ?_
    refine k_then_exit ?_
    have hx := some_inj h
    subst hx
    have hy := some_inj hn68
    subst hy
    replace h := h68
    refine k_then_exit ?_
    refine k_block_in ?_
    refine k_then ?_
    refine c_norm [(1, .int .i64 (IntKind.i64.wrap (1 + (Int.tmod (IntKind.i64.wrap ((Int.tmod p1 x12.1.1) + x12.1.1)) x12.1.1)))), (6, .pointer (some ⟨b9, 0, none⟩)), (7, .pointer (some ⟨b15, 0, none⟩)), (8, .slice a0_22 (d23_l52).length c0_22), (9, .slice a3_22 (d24_l52).length c3_22), (11, .slice a0_26 (x25.1).length c0_26), (12, .slice a3_26 (x25.2.1).length c3_26), (18, .int .i64 x54), (21, .int .i64 to_s21_l68), (110, .slice (some ⟨g54, 0, none⟩) (d31_l36).length c31_l36), (111, .int .i64 ((d31_l36).length : Int)), (112, .int .i64 t112__s112_l52)] ⟨rfl, rfl, rfl, rfl, rfl, rfl, rfl, rfl, rfl, rfl, rfl, rfl, trivial⟩ (fun J => ?_)
    refine c_seq ?_
    refine c_seq (c_plain ?_)
    refine x_pure 2 [(170, .int .i64 to_s21_l68), (171, .bool (decide (to_s21_l68 < 0)))] _ _ _ (by kernel_rfl) ?_
    refine x_end rfl (k_then ?_)
    refine c_cond (decide (to_s21_l68 < 0)) rfl (fun hb => ?_) (fun hb => ?_)
    · replace h := ite_t hb h
      refine c_seq ?_
      refine c_drawnp (newmo (wl68).drew) [(0, false), (1, false), (2, false), (3, false), (4, false), (5, false), (6, false), (8, false), (9, false), (10, false), (11, false), (12, false), (13, false), (14, false), (15, false), (16, false), (18, false)] (.alt 7 false (opsThen [] (.alt 17 false (opsThen [(19, false), (20, false), (21, false), (22, true)] .stop) (.alt 19 false (opsThen [(17, false), (20, false), (21, false), (22, true)] .stop) .none_))) (.alt 19 false (opsThen [(7, false), (17, false), (20, false), (21, false), (22, true)] .stop) .none_)) _ (by kernel_rfl) rfl ?_
      have hst := Stp.ext (ls := [[b9], [b15], B23_l52, B24_l52, blk (some ⟨g54, 0, none⟩), M]) (Ev.drew wl68)
      replace hb9 := (Ev.drew wl68).box hb9 nn
      replace hf7_1 := hf7_1.step hst
      replace hb15 := (Ev.drew wl68).box hb15 nn
      replace hf13_1 := hf13_1.step hst
      replace hf22_1 := hf22_1.step (plain_int _) (Ev.drew wl68) nn2
      replace hf22_2 := hf22_2.step (plain_int _) (Ev.drew wl68) nn2
      replace hf26_1 := hf26_1.step hst
      replace hf26_2 := hf26_2.step hst
      replace ho30 := ho30.step hst (Ev.drew wl68) nn2
      replace hms := hms.ev (Ev.drew wl68)
      replace hev := hev.ext (Ev.drew wl68)
      have hnz : ((wl68).drew).heap.size = ((wl68).drew).heap.size + 0 := rfl
      refine x_pure 1 [(172, .slice a3_22 (d24_l52).length c3_22)] _ _ _ (by kernel_rfl) ?_
      refine x_fieldAddr (xv := .pointer (some ⟨b9, 0, none⟩)) (.pointer (some ⟨b9, 0, none⟩)) rfl rfl rfl (reads_field tfld27_0 _ _) ?_
      refine x_load (xv := .pointer (some ⟨b9, 0, none⟩)) (.slice a0_7 (x6.1.1).length c0_7) rfl rfl rfl (reads_box tcell25 hb9 ((newmo_out (hms.ltat 0 rfl)) _ (List.mem_singleton.2 rfl)) 0 _ rfl) ?_
      refine x_pure 1 [(175, .int .i64 x54)] _ _ _ (by kernel_rfl) ?_
      obtain ⟨x75, hx75, h⟩ := bind_some h
      obtain ⟨ad75, cs75, hr75, hc75, hR⟩ := reads_index (Mo := (newmo (wl68).drew)) tsl25 hf7_1 hx75
      obtain ⟨_, _, rfl, rfl, ⟨_, _, rfl, rfl, ⟨_, _, rfl, rfl, rfl⟩⟩⟩ := hR
      refine x_indexAddr (xv := .slice a0_7 (x6.1.1).length c0_7) (yv := .int .i64 x54) (.pointer (some ad75)) rfl rfl rfl rfl hr75 ?_
      refine x_fieldAddr (xv := .pointer (some ad75)) (.pointer (some (Addr.add ad75 0))) rfl rfl rfl (reads_field tfld39_0 _ _) ?_
      refine x_load (xv := .pointer (some (Addr.add ad75 0))) (.int .i64 x75.1) rfl rfl rfl (reads_cell tcell3 (CellsAt.newer hc75) (fun b hb => hb) 0 _ rfl) ?_
      refine x_pure 1 [(180, .slice a3_22 (d24_l52).length c3_22)] _ _ _ (by kernel_rfl) ?_
      refine x_fieldAddr (xv := .pointer (some ⟨b9, 0, none⟩)) (.pointer (some ⟨b9, 0, none⟩)) rfl rfl rfl (reads_field tfld27_0 _ _) ?_
      refine x_load (xv := .pointer (some ⟨b9, 0, none⟩)) (.slice a0_7 (x6.1.1).length c0_7) rfl rfl rfl (reads_box tcell25 hb9 ((newmo_out (hms.ltat 0 rfl)) _ (List.mem_singleton.2 rfl)) 0 _ rfl) ?_
      refine x_pure 1 [(183, .int .i64 x54)] _ _ _ (by kernel_rfl) ?_
      obtain ⟨x77, hx77, h⟩ := bind_some h
      obtain ⟨ad77, cs77, hr77, hc77, hR⟩ := reads_index (Mo := (newmo (wl68).drew)) tsl25 hf7_1 hx77
      obtain ⟨_, _, rfl, rfl, ⟨_, _, rfl, rfl, ⟨_, _, rfl, rfl, rfl⟩⟩⟩ := hR
      refine x_indexAddr (xv := .slice a0_7 (x6.1.1).length c0_7) (yv := .int .i64 x54) (.pointer (some ad77)) rfl rfl rfl rfl hr77 ?_
      refine x_fieldAddr (xv := .pointer (some ad77)) (.pointer (some (Addr.add ad77 0))) rfl rfl rfl (reads_field tfld39_0 _ _) ?_
      refine x_load (xv := .pointer (some (Addr.add ad77 0))) (.int .i64 x77.1) rfl rfl rfl (reads_cell tcell3 (CellsAt.newer hc77) (fun b hb => hb) 0 _ rfl) ?_
      obtain ⟨x79, hx79, h⟩ := bind_some h
      obtain ⟨g79, ai79, ci79, hr79, hv79⟩ := OwnR.view (P := Try.prog) (Mo := (newmo (wl68).drew)) tsl32 hf22_2 hx79
      refine x_indexAddr (xv := .slice a3_22 (d24_l52).length c3_22) (yv := .int .i64 x77.1) (.pointer (some ⟨g79, (Int.toNat x77.1), none⟩)) rfl rfl rfl rfl hr79 ?_
      refine x_load (xv := .pointer (some ⟨g79, (Int.toNat x77.1), none⟩)) (.slice ai79 (x79).length ci79) rfl rfl rfl (RView.loadM tcell22 hv79 (newmo_out (hms.ltat 3 rfl))) ?_
      refine x_pure 1 [(190, .int .i64 x54)] _ _ _ (by kernel_rfl) ?_
      refine x_end rfl ?_
      refine t_alt _ rfl ?_ ?_
      · refine x_buildSlice (vs := []) #[] 3 rfl rfl rfl (by kernel_rfl) (fun b81 w81 hq81 hb81 he81 hz81 => ?_)
        refine ⟨.inr (he81.nil), ?_⟩
        have hnb81 : b81 = ((wl68).drew).heap.size + 0 := by omega
        replace hnz : w81.heap.size = ((wl68).drew).heap.size + 1 := by omega
        obtain ⟨a81, ea81⟩ : ∃ a, a = some (⟨b81, 0, none⟩ : Addr) := ⟨_, rfl⟩
        have hw81 : ∀ M, OwnS (eInt .i64) 3 w81 M a81 0 ([] : List Int) := fun M => ea81 ▸ own_of_box hb81 (by decide) rfl rfl (cells_at (cs := []) CellsOf.nil)
        have hn81 : ∀ b ∈ blk a81, (wl68).drew.heap.size ≤ b ∧ b < w81.heap.size := by subst ea81; intro b hb; simp only [blk, List.mem_singleton] at hb; subst hb; exact ⟨Nat.le_of_eq hq81.symm, lt_of_heap hb81⟩
        clear hb81
        have hst := Stp.push (ls := [[b9], [b15], B23_l52, B24_l52, blk (some ⟨g54, 0, none⟩), M]) (l := blk a81) he81 (fun _ h => by cases h) (fun b hb => (hn81 b hb).1)
        replace hb9 := he81.box hb9 nn
        replace hf7_1 := hf7_1.step hst
        replace hb15 := he81.box hb15 nn
        replace hf13_1 := hf13_1.step hst
        replace hf22_1 := hf22_1.step (plain_int _) he81 nn2
        replace hf22_2 := hf22_2.step (plain_int _) he81 nn2
        replace hf26_1 := hf26_1.step hst
        replace hf26_2 := hf26_2.step hst
        replace ho30 := ho30.step hst he81 nn2
        replace hc75 := hc75.step hst
        replace hc77 := hc77.step hst
        replace hv79 := hv79.step (plain_int _) he81 nn2
        replace hms := hms.push he81 hn81
        replace hfr := hfr.push (fun b hb => Nat.le_trans hev.size (hn81 b hb).1)
        replace hev := hev.ext he81
        have hnp81 : ∀ x ∈ blk a81, x ∈ (newmo (wl68).drew) := by subst ea81; intro x hx; simp only [blk, List.mem_singleton] at hx; subst hx; exact newmo_mem hnb81 rfl
        have ho81 := hw81 (fl [blk a81, [b9], [b15], B23_l52, B24_l52, blk (some ⟨g54, 0, none⟩), M])
        clear hw81
        rw [← ea81]
        refine x_end rfl ?_
        refine t_alt _ rfl ?_ ?_
        · have hg := guard_l h
          replace h := guard_r h
          obtain ⟨a83, c83, w83, hr83, he83, hn83, hm83, hw83⟩ := own_appendN (M := (blk a81)) tel22 22 (OwnS.plain (plain_int _) ho81) (fun _ h => h) (RView.ro (plain_int _) hv79 (hms.apart 4 0 rfl rfl rfl)) hg
          refine x_builtin (vs := [.slice a81 (([] : List Int)).length 0, .slice ai79 (x79).length ci79]) _ w83 rfl rfl rfl rfl (run_value _ _ _ _ hr83) ?_
          refine ⟨.inr (he83.sub hnp81), ?_⟩
          have hnp83 := newmo_app hm83 hnp81 hnz rfl
          have hst : Stp (fl [blk a81, [b9], [b15], B23_l52, B24_l52, blk (some ⟨g54, 0, none⟩), M]) w81 (fl [blk a83, [b9], [b15], B23_l52, B24_l52, blk (some ⟨g54, 0, none⟩), M]) w83 := Stp.upd 0 he83 rfl (fun b hb => (hn83 b hb).1)
          replace hb9 := he83.box hb9 (hms.apart 1 0 rfl rfl rfl _ (List.mem_singleton.2 rfl))
          replace hf7_1 := hf7_1.step hst
          replace hb15 := he83.box hb15 (hms.apart 2 0 rfl rfl rfl _ (List.mem_singleton.2 rfl))
          replace hf13_1 := hf13_1.step hst
          replace hf22_1 := hf22_1.step (plain_int _) he83 (hms.apart 3 0 rfl rfl rfl)
          replace hf22_2 := hf22_2.step (plain_int _) he83 (hms.apart 4 0 rfl rfl rfl)
          replace hf26_1 := hf26_1.step hst
          replace hf26_2 := hf26_2.step hst
          replace ho30 := ho30.step hst he83 (hms.apart 5 0 rfl rfl rfl)
          replace hc75 := hc75.step hst
          replace hc77 := hc77.step hst
          replace hv79 := hv79.step (plain_int _) he83 (hms.apart 4 0 rfl rfl rfl)
          replace hms : MS w83 [blk a83, [b9], [b15], B23_l52, B24_l52, blk (some ⟨g54, 0, none⟩), M] := hms.upd 0 he83 rfl hn83
          have hfr2 : FR w.heap.size [blk a83, [b9], [b15], B23_l52, B24_l52, blk (some ⟨g54, 0, none⟩)] := hfr.upd 0 rfl hev.size (fun b hb => (hn83 b hb).1)
          replace hev := hev.then he83 (fun b hb => .inr (hfr.at 0 rfl b hb))
          replace hfr := hfr2
          clear hfr2
          replace ho81 := OwnS.plain (M' := fl [blk a83, [b9], [b15], B23_l52, B24_l52, blk (some ⟨g54, 0, none⟩), M]) (plain_int _) (hw83 [] (fun _ h => by cases h))
          clear hw83
          refine x_buildSlice (vs := [(0, .int .i64 x54)]) #[.int .i64 x54] 3 rfl rfl rfl (by kernel_rfl) (fun b84 w84 hq84 hb84 he84 hz84 => ?_)
          refine ⟨.inr (he84.nil), ?_⟩
          have hms0 := hms
          have hst := Stp.ext (ls := [blk a83, [b9], [b15], B23_l52, B24_l52, blk (some ⟨g54, 0, none⟩), M]) he84
          replace hb9 := he84.box hb9 nn
          replace hf7_1 := hf7_1.step hst
          replace hb15 := he84.box hb15 nn
          replace hf13_1 := hf13_1.step hst
          replace hf22_1 := hf22_1.step (plain_int _) he84 nn2
          replace hf22_2 := hf22_2.step (plain_int _) he84 nn2
          replace hf26_1 := hf26_1.step hst
          replace hf26_2 := hf26_2.step hst
          replace ho30 := ho30.step hst he84 nn2
          replace hc75 := hc75.step hst
          replace hc77 := hc77.step hst
          replace hv79 := hv79.step (plain_int _) he84 nn2
          replace ho81 := ho81.step hst he84 nn2
          replace hms := hms.ev he84
          replace hev := hev.ext he84
          have hs84 : SlR (eInt .i64) w84 (fl [blk a83, [b9], [b15], B23_l52, B24_l52, blk (some ⟨g54, 0, none⟩), M]) (some ⟨b84, 0, none⟩) 1 ([x54]) := ro_of_box hms0 hq84 hb84 rfl rfl (cells_at (cs := [.int .i64 x54]) (CellsOf.cons (c := [.int .i64 x54]) rfl CellsOf.nil))
          clear hb84 hms0
          have hg := guard_l h
          replace h := guard_r h
          obtain ⟨a86, c86, w86, hr86, he86, hn86, hm86, hw86⟩ := own_appendN tel22 22 ho81 (mem_flat 0 rfl) hs84 hg
          refine x_builtin (vs := [.slice a83 ((([] : List Int) ++ x79)).length c83, .slice (some ⟨b84, 0, none⟩) ([x54]).length 1]) _ w86 rfl rfl rfl rfl (run_value _ _ _ _ hr86) ?_
          refine ⟨.inr (he86.sub hnp83), ?_⟩
          have hst : Stp (fl [blk a83, [b9], [b15], B23_l52, B24_l52, blk (some ⟨g54, 0, none⟩), M]) w84 (fl [blk a86, [b9], [b15], B23_l52, B24_l52, blk (some ⟨g54, 0, none⟩), M]) w86 := Stp.upd 0 he86 rfl (fun b hb => (hn86 b hb).1)
          replace hb9 := he86.box hb9 (hms.apart 1 0 rfl rfl rfl _ (List.mem_singleton.2 rfl))
          replace hf7_1 := hf7_1.step hst
          replace hb15 := he86.box hb15 (hms.apart 2 0 rfl rfl rfl _ (List.mem_singleton.2 rfl))
          replace hf13_1 := hf13_1.step hst
          replace hf22_1 := hf22_1.step (plain_int _) he86 (hms.apart 3 0 rfl rfl rfl)
          replace hf22_2 := hf22_2.step (plain_int _) he86 (hms.apart 4 0 rfl rfl rfl)
          replace hf26_1 := hf26_1.step hst
          replace hf26_2 := hf26_2.step hst
          replace ho30 := ho30.step hst he86 (hms.apart 5 0 rfl rfl rfl)
          replace hc75 := hc75.step hst
          replace hc77 := hc77.step hst
          replace hv79 := hv79.step (plain_int _) he86 (hms.apart 4 0 rfl rfl rfl)
          replace hs84 := hs84.step hst
          replace hms : MS w86 [blk a86, [b9], [b15], B23_l52, B24_l52, blk (some ⟨g54, 0, none⟩), M] := hms.upd 0 he86 rfl hn86
          have hfr2 : FR w.heap.size [blk a86, [b9], [b15], B23_l52, B24_l52, blk (some ⟨g54, 0, none⟩)] := hfr.upd 0 rfl hev.size (fun b hb => (hn86 b hb).1)
          replace hev := hev.then he86 (fun b hb => .inr (hfr.at 0 rfl b hb))
          replace hfr := hfr2
          clear hfr2
          replace ho81 := hw86 (fl [blk a86, [b9], [b15], B23_l52, B24_l52, blk (some ⟨g54, 0, none⟩), M]) hst.new
          clear hw86
          obtain ⟨x87, hx87, h⟩ := bind_some h
          obtain ⟨g87, ai87, ci87, hr87, hv87⟩ := OwnR.view (P := Try.prog) (Mo := (newmo (wl68).drew)) tsl32 hf22_2 hx87
          refine x_indexAddr (xv := .slice a3_22 (d24_l52).length c3_22) (yv := .int .i64 x75.1) (.pointer (some ⟨g87, (Int.toNat x75.1), none⟩)) rfl rfl rfl rfl hr87 ?_
          obtain ⟨B89, hR89, ho89, hs1, hs2, hs3⟩ := OwnR.opn hf22_2 hv87
          replace hf22_2 := hR89
          have hms2 := hms.split 4 rfl hs2 hs1 hs3
          have hsu : ∀ x ∈ fl [blk ai87, blk a86, [b9], [b15], B23_l52, B89, blk (some ⟨g54, 0, none⟩), M], x ∈ fl [blk a86, [b9], [b15], B23_l52, B24_l52, blk (some ⟨g54, 0, none⟩), M] := split_sub (ls := [blk a86, [b9], [b15], B23_l52, B24_l52, blk (some ⟨g54, 0, none⟩), M]) 4 rfl hs2 hs1
          replace hms : MS w86 [blk ai87, blk a86, [b9], [b15], B23_l52, B89, blk (some ⟨g54, 0, none⟩), M] := hms2
          replace hfr : FR w.heap.size [blk ai87, blk a86, [b9], [b15], B23_l52, B89, blk (some ⟨g54, 0, none⟩)] := (hfr.upd 4 rfl hev.size (fun b hb => .inl (hs1 b hb))).push (fun b hb => hfr.at 4 rfl b (hs2 b hb))
          replace hf7_1 := hf7_1.sub hsu
          replace hf13_1 := hf13_1.sub hsu
          replace hf26_1 := hf26_1.sub hsu
          replace hf26_2 := hf26_2.sub hsu
          replace ho30 := ho30.sub hsu
          replace hc75 := hc75.sub hsu
          replace hc77 := hc77.sub hsu
          replace ho81 := ho81.sub hsu
          replace hs84 := hs84.sub hsu
          replace ho89 := OwnS.plain (M' := fl [blk ai87, blk a86, [b9], [b15], B23_l52, B89, blk (some ⟨g54, 0, none⟩), M]) (plain_int _) ho89
          have hg89 := hv87.eq
          have hx89 := hv87.at_
          clear hv87 hms2 hs1 hs2 hs3 hsu
          obtain ⟨w91, B91, hr91, he91, hn91, hR91⟩ := OwnR.cls (P := Try.prog) (plain_int _) tcell22 hf22_2 hg89 hx89 ho81 (hms.apart 1 5 rfl rfl rfl) (hms.ltat 5 rfl)
          refine x_store w91 (xv := .pointer (some ⟨g87, (Int.toNat x75.1), none⟩)) (yv := .slice a86 (((([] : List Int) ++ x79) ++ [x54])).length c86) rfl rfl rfl rfl hr91 ?_
          refine ⟨.inl rfl, ?_⟩
          have hms2 := hms.merge (C := blk a86 ++ B89) 1 5 rfl rfl (fun x hx => List.mem_append.1 hx)
          replace hfr : FR w.heap.size [blk ai87, [b9], [b15], B23_l52, blk a86 ++ B89, blk (some ⟨g54, 0, none⟩)] := (FR.cons (hfr.at 0 rfl) (FR.cons (hfr.at 2 rfl) (FR.cons (hfr.at 3 rfl) (FR.cons (hfr.at 4 rfl) (FR.cons (fun b hb => (List.mem_append.1 hb).elim (hfr.at 1 rfl b) (hfr.at 5 rfl b)) (FR.cons (hfr.at 6 rfl) (FR.nil _)))))))
          have hsu : ∀ x ∈ fl [blk ai87, [b9], [b15], B23_l52, blk a86 ++ B89, blk (some ⟨g54, 0, none⟩), M], x ∈ fl [blk ai87, blk a86, [b9], [b15], B23_l52, B89, blk (some ⟨g54, 0, none⟩), M] := merge_sub (ls := [blk ai87, blk a86, [b9], [b15], B23_l52, B89, blk (some ⟨g54, 0, none⟩), M]) (C := blk a86 ++ B89) 1 5 rfl rfl (fun x hx => List.mem_append.1 hx)
          replace hms : MS w86 [blk ai87, [b9], [b15], B23_l52, blk a86 ++ B89, blk (some ⟨g54, 0, none⟩), M] := hms2
          replace hf7_1 := hf7_1.sub hsu
          replace hf13_1 := hf13_1.sub hsu
          replace hf26_1 := hf26_1.sub hsu
          replace hf26_2 := hf26_2.sub hsu
          replace ho30 := ho30.sub hsu
          replace hc75 := hc75.sub hsu
          replace hc77 := hc77.sub hsu
          replace hs84 := hs84.sub hsu
          replace ho89 := ho89.sub hsu
          clear hms2 hsu
          have hst : Stp (fl [blk ai87, [b9], [b15], B23_l52, blk a86 ++ B89, blk (some ⟨g54, 0, none⟩), M]) w86 (fl [blk ai87, [b9], [b15], B23_l52, B91, blk (some ⟨g54, 0, none⟩), M]) w91 := Stp.upd 4 he91 rfl (fun b hb => (hn91 b hb).1)
          replace hb9 := he91.box hb9 (hms.apart 1 4 rfl rfl rfl _ (List.mem_singleton.2 rfl))
          replace hf7_1 := hf7_1.step hst
          replace hb15 := he91.box hb15 (hms.apart 2 4 rfl rfl rfl _ (List.mem_singleton.2 rfl))
          replace hf13_1 := hf13_1.step hst
          replace hf22_1 := hf22_1.step (plain_int _) he91 (hms.apart 3 4 rfl rfl rfl)
          replace hf26_1 := hf26_1.step hst
          replace hf26_2 := hf26_2.step hst
          replace ho30 := ho30.step hst he91 (hms.apart 5 4 rfl rfl rfl)
          replace hc75 := hc75.step hst
          replace hc77 := hc77.step hst
          replace hs84 := hs84.step hst
          replace ho89 := ho89.step hst he91 (hms.apart 0 4 rfl rfl rfl)
          replace hms : MS w91 [blk ai87, [b9], [b15], B23_l52, B91, blk (some ⟨g54, 0, none⟩), M] := hms.upd 4 he91 rfl hn91
          have hfr2 : FR w.heap.size [blk ai87, [b9], [b15], B23_l52, B91, blk (some ⟨g54, 0, none⟩)] := hfr.upd 4 rfl hev.size (fun b hb => (hn91 b hb).1)
          replace hev := hev.then he91 (fun b hb => .inr (hfr.at 4 rfl b hb))
          replace hfr := hfr2
          clear hfr2
          replace hf22_2 := hR91
          have hsl : (Value.slice a3_22 (d24_l52).length c3_22) = (Value.slice a3_22 ((d24_l52.set (Int.toNat x75.1) ((([] : List Int) ++ x79) ++ [x54]))).length c3_22) := by rw [List.length_set]
          try rw [hsl]
          clear hsl
          refine x_end rfl ?_
          refine t_stop ?_
          refine k_then ?_
          refine c_norm [(1, .int .i64 (IntKind.i64.wrap (1 + (Int.tmod (IntKind.i64.wrap ((Int.tmod p1 x12.1.1) + x12.1.1)) x12.1.1)))), (6, .pointer (some ⟨b9, 0, none⟩)), (7, .pointer (some ⟨b15, 0, none⟩)), (8, .slice a0_22 (d23_l52).length c0_22), (9, .slice a3_22 ((d24_l52.set (Int.toNat x75.1) ((([] : List Int) ++ x79) ++ [x54]))).length c3_22), (11, .slice a0_26 (x25.1).length c0_26), (12, .slice a3_26 (x25.2.1).length c3_26), (110, .slice (some ⟨g54, 0, none⟩) (d31_l36).length c31_l36), (111, .int .i64 ((d31_l36).length : Int)), (112, .int .i64 t112__s112_l52)] ⟨rfl, rfl, rfl, rfl, rfl, rfl, rfl, rfl, rfl, rfl, trivial⟩ (fun J => ?_)
          refine c_exit ?_
          refine k_then_exit ?_
          refine k_block_in ?_
          refine k_then ?_
          refine c_plain ?_
          refine x_pure 2 [(210, .int .i64 (IntKind.i64.wrap (t112__s112_l52 + 1))), (112, .int .i64 (IntKind.i64.wrap (t112__s112_l52 + 1)))] _ _ _ (by kernel_rfl) ?_
          refine x_end rfl ?_
          have hx := some_inj h
          subst hx
          have hpk : MS w91 [[b9], [b15], B23_l52, B91, blk (some ⟨g54, 0, none⟩), M] := hms.pick [some 1, some 2, some 3, some 4, some 5, some 6] _ rfl
          have hsu : ∀ x ∈ fl [[b9], [b15], B23_l52, B91, blk (some ⟨g54, 0, none⟩), M], x ∈ fl [blk ai87, [b9], [b15], B23_l52, B91, blk (some ⟨g54, 0, none⟩), M] := pick_sub [some 1, some 2, some 3, some 4, some 5, some 6] _ rfl
          replace hf7_1 := hf7_1.sub hsu
          replace hf13_1 := hf13_1.sub hsu
          replace hf26_1 := hf26_1.sub hsu
          replace hf26_2 := hf26_2.sub hsu
          replace ho30 := ho30.sub hsu
          replace hms := hpk
          replace hfr : FR w.heap.size [[b9], [b15], B23_l52, B91, blk (some ⟨g54, 0, none⟩)] := hfr.pick [some 1, some 2, some 3, some 4, some 5] _ rfl
          clear hpk hsu
          exact k_then ⟨(m52, d23_l52, (d24_l52.set (Int.toNat x75.1) ((([] : List Int) ++ x79) ++ [x54])), IntKind.i64.wrap (t112__s112_l52 + 1), B23_l52, B91, (some ⟨g54, 0, none⟩)), ⟨rfl, rfl, rfl, rfl, rfl, rfl, rfl, rfl, rfl, rfl, trivial⟩, ⟨hn52, hev, hms, hfr, hf7_1, hb9, hf13_1, hb15, hf22_1, hf22_2, hf26_1, hf26_2, ho30⟩, Nat.lt_succ_self _⟩
        refine t_alt _ rfl ?_ ?_
        · refine x_buildSlice (vs := [(0, .int .i64 x54)]) #[.int .i64 x54] 3 rfl rfl rfl (by kernel_rfl) (fun b83 w83 hq83 hb83 he83 hz83 => ?_)
          refine ⟨.inr (he83.nil), ?_⟩
          have hms0 := hms
          have hnb83 : b83 = ((wl68).drew).heap.size + 1 := by omega
          replace hnz : w83.heap.size = ((wl68).drew).heap.size + 2 := by omega
          have hst := Stp.ext (ls := [blk a81, [b9], [b15], B23_l52, B24_l52, blk (some ⟨g54, 0, none⟩), M]) he83
          replace hb9 := he83.box hb9 nn
          replace hf7_1 := hf7_1.step hst
          replace hb15 := he83.box hb15 nn
          replace hf13_1 := hf13_1.step hst
          replace hf22_1 := hf22_1.step (plain_int _) he83 nn2
          replace hf22_2 := hf22_2.step (plain_int _) he83 nn2
          replace hf26_1 := hf26_1.step hst
          replace hf26_2 := hf26_2.step hst
          replace ho30 := ho30.step hst he83 nn2
          replace hc75 := hc75.step hst
          replace hc77 := hc77.step hst
          replace hv79 := hv79.step (plain_int _) he83 nn2
          replace ho81 := ho81.step hst he83 nn2
          replace hms := hms.ev he83
          replace hev := hev.ext he83
          have hs83 : SlR (eInt .i64) w83 (fl [blk a81, [b9], [b15], B23_l52, B24_l52, blk (some ⟨g54, 0, none⟩), M]) (some ⟨b83, 0, none⟩) 1 ([x54]) := ro_of_box hms0 hq83 hb83 rfl rfl (cells_at (cs := [.int .i64 x54]) (CellsOf.cons (c := [.int .i64 x54]) rfl CellsOf.nil))
          clear hb83 hms0
          have hg := guard_l h
          replace h := guard_r h
          obtain ⟨a85, c85, w85, hr85, he85, hn85, hm85, hw85⟩ := own_appendN (M := (blk a81)) tel22 22 (OwnS.plain (plain_int _) ho81) (fun _ h => h) (RView.ro (plain_int _) hv79 (hms.apart 4 0 rfl rfl rfl)) hg
          refine x_builtin (vs := [.slice a81 (([] : List Int)).length 0, .slice ai79 (x79).length ci79]) _ w85 rfl rfl rfl rfl (run_value _ _ _ _ hr85) ?_
          refine ⟨.inr (he85.sub hnp81), ?_⟩
          have hnp85 := newmo_app hm85 hnp81 hnz rfl
          have hst : Stp (fl [blk a81, [b9], [b15], B23_l52, B24_l52, blk (some ⟨g54, 0, none⟩), M]) w83 (fl [blk a85, [b9], [b15], B23_l52, B24_l52, blk (some ⟨g54, 0, none⟩), M]) w85 := Stp.upd 0 he85 rfl (fun b hb => (hn85 b hb).1)
          replace hb9 := he85.box hb9 (hms.apart 1 0 rfl rfl rfl _ (List.mem_singleton.2 rfl))
          replace hf7_1 := hf7_1.step hst
          replace hb15 := he85.box hb15 (hms.apart 2 0 rfl rfl rfl _ (List.mem_singleton.2 rfl))
          replace hf13_1 := hf13_1.step hst
          replace hf22_1 := hf22_1.step (plain_int _) he85 (hms.apart 3 0 rfl rfl rfl)
          replace hf22_2 := hf22_2.step (plain_int _) he85 (hms.apart 4 0 rfl rfl rfl)
          replace hf26_1 := hf26_1.step hst
          replace hf26_2 := hf26_2.step hst
          replace ho30 := ho30.step hst he85 (hms.apart 5 0 rfl rfl rfl)
          replace hc75 := hc75.step hst
          replace hc77 := hc77.step hst
          replace hv79 := hv79.step (plain_int _) he85 (hms.apart 4 0 rfl rfl rfl)
          replace hs83 := hs83.step hst
          replace hms : MS w85 [blk a85, [b9], [b15], B23_l52, B24_l52, blk (some ⟨g54, 0, none⟩), M] := hms.upd 0 he85 rfl hn85
          have hfr2 : FR w.heap.size [blk a85, [b9], [b15], B23_l52, B24_l52, blk (some ⟨g54, 0, none⟩)] := hfr.upd 0 rfl hev.size (fun b hb => (hn85 b hb).1)
          replace hev := hev.then he85 (fun b hb => .inr (hfr.at 0 rfl b hb))
          replace hfr := hfr2
          clear hfr2
          replace ho81 := OwnS.plain (M' := fl [blk a85, [b9], [b15], B23_l52, B24_l52, blk (some ⟨g54, 0, none⟩), M]) (plain_int _) (hw85 [] (fun _ h => by cases h))
          clear hw85
          have hg := guard_l h
          replace h := guard_r h
          obtain ⟨a86, c86, w86, hr86, he86, hn86, hm86, hw86⟩ := own_appendN tel22 22 ho81 (mem_flat 0 rfl) hs83 hg
          refine x_builtin (vs := [.slice a85 ((([] : List Int) ++ x79)).length c85, .slice (some ⟨b83, 0, none⟩) ([x54]).length 1]) _ w86 rfl rfl rfl rfl (run_value _ _ _ _ hr86) ?_
          refine ⟨.inr (he86.sub hnp85), ?_⟩
          have hst : Stp (fl [blk a85, [b9], [b15], B23_l52, B24_l52, blk (some ⟨g54, 0, none⟩), M]) w85 (fl [blk a86, [b9], [b15], B23_l52, B24_l52, blk (some ⟨g54, 0, none⟩), M]) w86 := Stp.upd 0 he86 rfl (fun b hb => (hn86 b hb).1)
          replace hb9 := he86.box hb9 (hms.apart 1 0 rfl rfl rfl _ (List.mem_singleton.2 rfl))
          replace hf7_1 := hf7_1.step hst
          replace hb15 := he86.box hb15 (hms.apart 2 0 rfl rfl rfl _ (List.mem_singleton.2 rfl))
          replace hf13_1 := hf13_1.step hst
          replace hf22_1 := hf22_1.step (plain_int _) he86 (hms.apart 3 0 rfl rfl rfl)
          replace hf22_2 := hf22_2.step (plain_int _) he86 (hms.apart 4 0 rfl rfl rfl)
          replace hf26_1 := hf26_1.step hst
          replace hf26_2 := hf26_2.step hst
          replace ho30 := ho30.step hst he86 (hms.apart 5 0 rfl rfl rfl)
          replace hc75 := hc75.step hst
          replace hc77 := hc77.step hst
          replace hv79 := hv79.step (plain_int _) he86 (hms.apart 4 0 rfl rfl rfl)
          replace hs83 := hs83.step hst
          replace hms : MS w86 [blk a86, [b9], [b15], B23_l52, B24_l52, blk (some ⟨g54, 0, none⟩), M] := hms.upd 0 he86 rfl hn86
          have hfr2 : FR w.heap.size [blk a86, [b9], [b15], B23_l52, B24_l52, blk (some ⟨g54, 0, none⟩)] := hfr.upd 0 rfl hev.size (fun b hb => (hn86 b hb).1)
          replace hev := hev.then he86 (fun b hb => .inr (hfr.at 0 rfl b hb))
          replace hfr := hfr2
          clear hfr2
          replace ho81 := hw86 (fl [blk a86, [b9], [b15], B23_l52, B24_l52, blk (some ⟨g54, 0, none⟩), M]) hst.new
          clear hw86
          obtain ⟨x87, hx87, h⟩ := bind_some h
          obtain ⟨g87, ai87, ci87, hr87, hv87⟩ := OwnR.view (P := Try.prog) (Mo := (newmo (wl68).drew)) tsl32 hf22_2 hx87
          refine x_indexAddr (xv := .slice a3_22 (d24_l52).length c3_22) (yv := .int .i64 x75.1) (.pointer (some ⟨g87, (Int.toNat x75.1), none⟩)) rfl rfl rfl rfl hr87 ?_
          obtain ⟨B89, hR89, ho89, hs1, hs2, hs3⟩ := OwnR.opn hf22_2 hv87
          replace hf22_2 := hR89
          have hms2 := hms.split 4 rfl hs2 hs1 hs3
          have hsu : ∀ x ∈ fl [blk ai87, blk a86, [b9], [b15], B23_l52, B89, blk (some ⟨g54, 0, none⟩), M], x ∈ fl [blk a86, [b9], [b15], B23_l52, B24_l52, blk (some ⟨g54, 0, none⟩), M] := split_sub (ls := [blk a86, [b9], [b15], B23_l52, B24_l52, blk (some ⟨g54, 0, none⟩), M]) 4 rfl hs2 hs1
          replace hms : MS w86 [blk ai87, blk a86, [b9], [b15], B23_l52, B89, blk (some ⟨g54, 0, none⟩), M] := hms2
          replace hfr : FR w.heap.size [blk ai87, blk a86, [b9], [b15], B23_l52, B89, blk (some ⟨g54, 0, none⟩)] := (hfr.upd 4 rfl hev.size (fun b hb => .inl (hs1 b hb))).push (fun b hb => hfr.at 4 rfl b (hs2 b hb))
          replace hf7_1 := hf7_1.sub hsu
          replace hf13_1 := hf13_1.sub hsu
          replace hf26_1 := hf26_1.sub hsu
          replace hf26_2 := hf26_2.sub hsu
          replace ho30 := ho30.sub hsu
          replace hc75 := hc75.sub hsu
          replace hc77 := hc77.sub hsu
          replace ho81 := ho81.sub hsu
          replace hs83 := hs83.sub hsu
          replace ho89 := OwnS.plain (M' := fl [blk ai87, blk a86, [b9], [b15], B23_l52, B89, blk (some ⟨g54, 0, none⟩), M]) (plain_int _) ho89
          have hg89 := hv87.eq
          have hx89 := hv87.at_
          clear hv87 hms2 hs1 hs2 hs3 hsu
          obtain ⟨w91, B91, hr91, he91, hn91, hR91⟩ := OwnR.cls (P := Try.prog) (plain_int _) tcell22 hf22_2 hg89 hx89 ho81 (hms.apart 1 5 rfl rfl rfl) (hms.ltat 5 rfl)
          refine x_store w91 (xv := .pointer (some ⟨g87, (Int.toNat x75.1), none⟩)) (yv := .slice a86 (((([] : List Int) ++ x79) ++ [x54])).length c86) rfl rfl rfl rfl hr91 ?_
          refine ⟨.inl rfl, ?_⟩
          have hms2 := hms.merge (C := blk a86 ++ B89) 1 5 rfl rfl (fun x hx => List.mem_append.1 hx)
          replace hfr : FR w.heap.size [blk ai87, [b9], [b15], B23_l52, blk a86 ++ B89, blk (some ⟨g54, 0, none⟩)] := (FR.cons (hfr.at 0 rfl) (FR.cons (hfr.at 2 rfl) (FR.cons (hfr.at 3 rfl) (FR.cons (hfr.at 4 rfl) (FR.cons (fun b hb => (List.mem_append.1 hb).elim (hfr.at 1 rfl b) (hfr.at 5 rfl b)) (FR.cons (hfr.at 6 rfl) (FR.nil _)))))))
          have hsu : ∀ x ∈ fl [blk ai87, [b9], [b15], B23_l52, blk a86 ++ B89, blk (some ⟨g54, 0, none⟩), M], x ∈ fl [blk ai87, blk a86, [b9], [b15], B23_l52, B89, blk (some ⟨g54, 0, none⟩), M] := merge_sub (ls := [blk ai87, blk a86, [b9], [b15], B23_l52, B89, blk (some ⟨g54, 0, none⟩), M]) (C := blk a86 ++ B89) 1 5 rfl rfl (fun x hx => List.mem_append.1 hx)
          replace hms : MS w86 [blk ai87, [b9], [b15], B23_l52, blk a86 ++ B89, blk (some ⟨g54, 0, none⟩), M] := hms2
          replace hf7_1 := hf7_1.sub hsu
          replace hf13_1 := hf13_1.sub hsu
          replace hf26_1 := hf26_1.sub hsu
          replace hf26_2 := hf26_2.sub hsu
          replace ho30 := ho30.sub hsu
          replace hc75 := hc75.sub hsu
          replace hc77 := hc77.sub hsu
          replace hs83 := hs83.sub hsu
          replace ho89 := ho89.sub hsu
          clear hms2 hsu
          have hst : Stp (fl [blk ai87, [b9], [b15], B23_l52, blk a86 ++ B89, blk (some ⟨g54, 0, none⟩), M]) w86 (fl [blk ai87, [b9], [b15], B23_l52, B91, blk (some ⟨g54, 0, none⟩), M]) w91 := Stp.upd 4 he91 rfl (fun b hb => (hn91 b hb).1)
          replace hb9 := he91.box hb9 (hms.apart 1 4 rfl rfl rfl _ (List.mem_singleton.2 rfl))
          replace hf7_1 := hf7_1.step hst
          replace hb15 := he91.box hb15 (hms.apart 2 4 rfl rfl rfl _ (List.mem_singleton.2 rfl))
          replace hf13_1 := hf13_1.step hst
          replace hf22_1 := hf22_1.step (plain_int _) he91 (hms.apart 3 4 rfl rfl rfl)
          replace hf26_1 := hf26_1.step hst
          replace hf26_2 := hf26_2.step hst
          replace ho30 := ho30.step hst he91 (hms.apart 5 4 rfl rfl rfl)
          replace hc75 := hc75.step hst
          replace hc77 := hc77.step hst
          replace hs83 := hs83.step hst
          replace ho89 := ho89.step hst he91 (hms.apart 0 4 rfl rfl rfl)
          replace hms : MS w91 [blk ai87, [b9], [b15], B23_l52, B91, blk (some ⟨g54, 0, none⟩), M] := hms.upd 4 he91 rfl hn91
          have hfr2 : FR w.heap.size [blk ai87, [b9], [b15], B23_l52, B91, blk (some ⟨g54, 0, none⟩)] := hfr.upd 4 rfl hev.size (fun b hb => (hn91 b hb).1)
          replace hev := hev.then he91 (fun b hb => .inr (hfr.at 4 rfl b hb))
          replace hfr := hfr2
          clear hfr2
          replace hf22_2 := hR91
          have hsl : (Value.slice a3_22 (d24_l52).length c3_22) = (Value.slice a3_22 ((d24_l52.set (Int.toNat x75.1) ((([] : List Int) ++ x79) ++ [x54]))).length c3_22) := by rw [List.length_set]
          try rw [hsl]
          clear hsl
          refine x_end rfl ?_
          refine t_stop ?_
          refine k_then ?_
          refine c_norm [(1, .int .i64 (IntKind.i64.wrap (1 + (Int.tmod (IntKind.i64.wrap ((Int.tmod p1 x12.1.1) + x12.1.1)) x12.1.1)))), (6, .pointer (some ⟨b9, 0, none⟩)), (7, .pointer (some ⟨b15, 0, none⟩)), (8, .slice a0_22 (d23_l52).length c0_22), (9, .slice a3_22 ((d24_l52.set (Int.toNat x75.1) ((([] : List Int) ++ x79) ++ [x54]))).length c3_22), (11, .slice a0_26 (x25.1).length c0_26), (12, .slice a3_26 (x25.2.1).length c3_26), (110, .slice (some ⟨g54, 0, none⟩) (d31_l36).length c31_l36), (111, .int .i64 ((d31_l36).length : Int)), (112, .int .i64 t112__s112_l52)] ⟨rfl, rfl, rfl, rfl, rfl, rfl, rfl, rfl, rfl, rfl, trivial⟩ (fun J => ?_)
          refine c_exit ?_
          refine k_then_exit ?_
          refine k_block_in ?_
          refine k_then ?_
          refine c_plain ?_
          refine x_pure 2 [(210, .int .i64 (IntKind.i64.wrap (t112__s112_l52 + 1))), (112, .int .i64 (IntKind.i64.wrap (t112__s112_l52 + 1)))] _ _ _ (by kernel_rfl) ?_
          refine x_end rfl ?_
          have hx := some_inj h
          subst hx
          have hpk : MS w91 [[b9], [b15], B23_l52, B91, blk (some ⟨g54, 0, none⟩), M] := hms.pick [some 1, some 2, some 3, some 4, some 5, some 6] _ rfl
          have hsu : ∀ x ∈ fl [[b9], [b15], B23_l52, B91, blk (some ⟨g54, 0, none⟩), M], x ∈ fl [blk ai87, [b9], [b15], B23_l52, B91, blk (some ⟨g54, 0, none⟩), M] := pick_sub [some 1, some 2, some 3, some 4, some 5, some 6] _ rfl
          replace hf7_1 := hf7_1.sub hsu
          replace hf13_1 := hf13_1.sub hsu
          replace hf26_1 := hf26_1.sub hsu
          replace hf26_2 := hf26_2.sub hsu
          replace ho30 := ho30.sub hsu
          replace hms := hpk
          replace hfr : FR w.heap.size [[b9], [b15], B23_l52, B91, blk (some ⟨g54, 0, none⟩)] := hfr.pick [some 1, some 2, some 3, some 4, some 5] _ rfl
          clear hpk hsu
          exact k_then ⟨(m52, d23_l52, (d24_l52.set (Int.toNat x75.1) ((([] : List Int) ++ x79) ++ [x54])), IntKind.i64.wrap (t112__s112_l52 + 1), B23_l52, B91, (some ⟨g54, 0, none⟩)), ⟨rfl, rfl, rfl, rfl, rfl, rfl, rfl, rfl, rfl, rfl, trivial⟩, ⟨hn52, hev, hms, hfr, hf7_1, hb9, hf13_1, hb15, hf22_1, hf22_2, hf26_1, hf26_2, ho30⟩, Nat.lt_succ_self _⟩
        exact t_none
      refine t_alt _ rfl ?_ ?_
      · refine x_buildSlice (vs := [(0, .int .i64 x54)]) #[.int .i64 x54] 3 rfl rfl rfl (by kernel_rfl) (fun b81 w81 hq81 hb81 he81 hz81 => ?_)
        refine ⟨.inr (he81.nil), ?_⟩
        have hms0 := hms
        have hnb81 : b81 = ((wl68).drew).heap.size + 0 := by omega
        replace hnz : w81.heap.size = ((wl68).drew).heap.size + 1 := by omega
        have hst := Stp.ext (ls := [[b9], [b15], B23_l52, B24_l52, blk (some ⟨g54, 0, none⟩), M]) he81
        replace hb9 := he81.box hb9 nn
        replace hf7_1 := hf7_1.step hst
        replace hb15 := he81.box hb15 nn
        replace hf13_1 := hf13_1.step hst
        replace hf22_1 := hf22_1.step (plain_int _) he81 nn2
        replace hf22_2 := hf22_2.step (plain_int _) he81 nn2
        replace hf26_1 := hf26_1.step hst
        replace hf26_2 := hf26_2.step hst
        replace ho30 := ho30.step hst he81 nn2
        replace hc75 := hc75.step hst
        replace hc77 := hc77.step hst
        replace hv79 := hv79.step (plain_int _) he81 nn2
        replace hms := hms.ev he81
        replace hev := hev.ext he81
        have hs81 : SlR (eInt .i64) w81 (fl [[b9], [b15], B23_l52, B24_l52, blk (some ⟨g54, 0, none⟩), M]) (some ⟨b81, 0, none⟩) 1 ([x54]) := ro_of_box hms0 hq81 hb81 rfl rfl (cells_at (cs := [.int .i64 x54]) (CellsOf.cons (c := [.int .i64 x54]) rfl CellsOf.nil))
        clear hb81 hms0
        refine x_buildSlice (vs := []) #[] 3 rfl rfl rfl (by kernel_rfl) (fun b83 w83 hq83 hb83 he83 hz83 => ?_)
        refine ⟨.inr (he83.nil), ?_⟩
        have hnb83 : b83 = ((wl68).drew).heap.size + 1 := by omega
        replace hnz : w83.heap.size = ((wl68).drew).heap.size + 2 := by omega
        obtain ⟨a83, ea83⟩ : ∃ a, a = some (⟨b83, 0, none⟩ : Addr) := ⟨_, rfl⟩
        have hw83 : ∀ M, OwnS (eInt .i64) 3 w83 M a83 0 ([] : List Int) := fun M => ea83 ▸ own_of_box hb83 (by decide) rfl rfl (cells_at (cs := []) CellsOf.nil)
        have hn83 : ∀ b ∈ blk a83, w81.heap.size ≤ b ∧ b < w83.heap.size := by subst ea83; intro b hb; simp only [blk, List.mem_singleton] at hb; subst hb; exact ⟨Nat.le_of_eq hq83.symm, lt_of_heap hb83⟩
        clear hb83
        have hst := Stp.push (ls := [[b9], [b15], B23_l52, B24_l52, blk (some ⟨g54, 0, none⟩), M]) (l := blk a83) he83 (fun _ h => by cases h) (fun b hb => (hn83 b hb).1)
        replace hb9 := he83.box hb9 nn
        replace hf7_1 := hf7_1.step hst
        replace hb15 := he83.box hb15 nn
        replace hf13_1 := hf13_1.step hst
        replace hf22_1 := hf22_1.step (plain_int _) he83 nn2
        replace hf22_2 := hf22_2.step (plain_int _) he83 nn2
        replace hf26_1 := hf26_1.step hst
        replace hf26_2 := hf26_2.step hst
        replace ho30 := ho30.step hst he83 nn2
        replace hc75 := hc75.step hst
        replace hc77 := hc77.step hst
        replace hv79 := hv79.step (plain_int _) he83 nn2
        replace hs81 := hs81.step hst
        replace hms := hms.push he83 hn83
        replace hfr := hfr.push (fun b hb => Nat.le_trans hev.size (hn83 b hb).1)
        replace hev := hev.ext he83
        have hnp83 : ∀ x ∈ blk a83, x ∈ (newmo (wl68).drew) := by subst ea83; intro x hx; simp only [blk, List.mem_singleton] at hx; subst hx; exact newmo_mem hnb83 rfl
        have ho83 := hw83 (fl [blk a83, [b9], [b15], B23_l52, B24_l52, blk (some ⟨g54, 0, none⟩), M])
        clear hw83
        rw [← ea83]
        have hg := guard_l h
        replace h := guard_r h
        obtain ⟨a85, c85, w85, hr85, he85, hn85, hm85, hw85⟩ := own_appendN (M := (blk a83)) tel22 22 (OwnS.plain (plain_int _) ho83) (fun _ h => h) (RView.ro (plain_int _) hv79 (hms.apart 4 0 rfl rfl rfl)) hg
        refine x_builtin (vs := [.slice a83 (([] : List Int)).length 0, .slice ai79 (x79).length ci79]) _ w85 rfl rfl rfl rfl (run_value _ _ _ _ hr85) ?_
        refine ⟨.inr (he85.sub hnp83), ?_⟩
        have hnp85 := newmo_app hm85 hnp83 hnz rfl
        have hst : Stp (fl [blk a83, [b9], [b15], B23_l52, B24_l52, blk (some ⟨g54, 0, none⟩), M]) w83 (fl [blk a85, [b9], [b15], B23_l52, B24_l52, blk (some ⟨g54, 0, none⟩), M]) w85 := Stp.upd 0 he85 rfl (fun b hb => (hn85 b hb).1)
        replace hb9 := he85.box hb9 (hms.apart 1 0 rfl rfl rfl _ (List.mem_singleton.2 rfl))
        replace hf7_1 := hf7_1.step hst
        replace hb15 := he85.box hb15 (hms.apart 2 0 rfl rfl rfl _ (List.mem_singleton.2 rfl))
        replace hf13_1 := hf13_1.step hst
        replace hf22_1 := hf22_1.step (plain_int _) he85 (hms.apart 3 0 rfl rfl rfl)
        replace hf22_2 := hf22_2.step (plain_int _) he85 (hms.apart 4 0 rfl rfl rfl)
        replace hf26_1 := hf26_1.step hst
        replace hf26_2 := hf26_2.step hst
        replace ho30 := ho30.step hst he85 (hms.apart 5 0 rfl rfl rfl)
        replace hc75 := hc75.step hst
        replace hc77 := hc77.step hst
        replace hv79 := hv79.step (plain_int _) he85 (hms.apart 4 0 rfl rfl rfl)
        replace hs81 := hs81.step hst
        replace hms : MS w85 [blk a85, [b9], [b15], B23_l52, B24_l52, blk (some ⟨g54, 0, none⟩), M] := hms.upd 0 he85 rfl hn85
        have hfr2 : FR w.heap.size [blk a85, [b9], [b15], B23_l52, B24_l52, blk (some ⟨g54, 0, none⟩)] := hfr.upd 0 rfl hev.size (fun b hb => (hn85 b hb).1)
        replace hev := hev.then he85 (fun b hb => .inr (hfr.at 0 rfl b hb))
        replace hfr := hfr2
        clear hfr2
        replace ho83 := OwnS.plain (M' := fl [blk a85, [b9], [b15], B23_l52, B24_l52, blk (some ⟨g54, 0, none⟩), M]) (plain_int _) (hw85 [] (fun _ h => by cases h))
        clear hw85
        have hg := guard_l h
        replace h := guard_r h
        obtain ⟨a86, c86, w86, hr86, he86, hn86, hm86, hw86⟩ := own_appendN tel22 22 ho83 (mem_flat 0 rfl) hs81 hg
        refine x_builtin (vs := [.slice a85 ((([] : List Int) ++ x79)).length c85, .slice (some ⟨b81, 0, none⟩) ([x54]).length 1]) _ w86 rfl rfl rfl rfl (run_value _ _ _ _ hr86) ?_
        refine ⟨.inr (he86.sub hnp85), ?_⟩
        have hst : Stp (fl [blk a85, [b9], [b15], B23_l52, B24_l52, blk (some ⟨g54, 0, none⟩), M]) w85 (fl [blk a86, [b9], [b15], B23_l52, B24_l52, blk (some ⟨g54, 0, none⟩), M]) w86 := Stp.upd 0 he86 rfl (fun b hb => (hn86 b hb).1)
        replace hb9 := he86.box hb9 (hms.apart 1 0 rfl rfl rfl _ (List.mem_singleton.2 rfl))
        replace hf7_1 := hf7_1.step hst
        replace hb15 := he86.box hb15 (hms.apart 2 0 rfl rfl rfl _ (List.mem_singleton.2 rfl))
        replace hf13_1 := hf13_1.step hst
        replace hf22_1 := hf22_1.step (plain_int _) he86 (hms.apart 3 0 rfl rfl rfl)
        replace hf22_2 := hf22_2.step (plain_int _) he86 (hms.apart 4 0 rfl rfl rfl)
        replace hf26_1 := hf26_1.step hst
        replace hf26_2 := hf26_2.step hst
        replace ho30 := ho30.step hst he86 (hms.apart 5 0 rfl rfl rfl)
        replace hc75 := hc75.step hst
        replace hc77 := hc77.step hst
        replace hv79 := hv79.step (plain_int _) he86 (hms.apart 4 0 rfl rfl rfl)
        replace hs81 := hs81.step hst
        replace hms : MS w86 [blk a86, [b9], [b15], B23_l52, B24_l52, blk (some ⟨g54, 0, none⟩), M] := hms.upd 0 he86 rfl hn86
        have hfr2 : FR w.heap.size [blk a86, [b9], [b15], B23_l52, B24_l52, blk (some ⟨g54, 0, none⟩)] := hfr.upd 0 rfl hev.size (fun b hb => (hn86 b hb).1)
        replace hev := hev.then he86 (fun b hb => .inr (hfr.at 0 rfl b hb))
        replace hfr := hfr2
        clear hfr2
        replace ho83 := hw86 (fl [blk a86, [b9], [b15], B23_l52, B24_l52, blk (some ⟨g54, 0, none⟩), M]) hst.new
        clear hw86
        obtain ⟨x87, hx87, h⟩ := bind_some h
        obtain ⟨g87, ai87, ci87, hr87, hv87⟩ := OwnR.view (P := Try.prog) (Mo := (newmo (wl68).drew)) tsl32 hf22_2 hx87
        refine x_indexAddr (xv := .slice a3_22 (d24_l52).length c3_22) (yv := .int .i64 x75.1) (.pointer (some ⟨g87, (Int.toNat x75.1), none⟩)) rfl rfl rfl rfl hr87 ?_
        obtain ⟨B89, hR89, ho89, hs1, hs2, hs3⟩ := OwnR.opn hf22_2 hv87
        replace hf22_2 := hR89
        have hms2 := hms.split 4 rfl hs2 hs1 hs3
        have hsu : ∀ x ∈ fl [blk ai87, blk a86, [b9], [b15], B23_l52, B89, blk (some ⟨g54, 0, none⟩), M], x ∈ fl [blk a86, [b9], [b15], B23_l52, B24_l52, blk (some ⟨g54, 0, none⟩), M] := split_sub (ls := [blk a86, [b9], [b15], B23_l52, B24_l52, blk (some ⟨g54, 0, none⟩), M]) 4 rfl hs2 hs1
        replace hms : MS w86 [blk ai87, blk a86, [b9], [b15], B23_l52, B89, blk (some ⟨g54, 0, none⟩), M] := hms2
        replace hfr : FR w.heap.size [blk ai87, blk a86, [b9], [b15], B23_l52, B89, blk (some ⟨g54, 0, none⟩)] := (hfr.upd 4 rfl hev.size (fun b hb => .inl (hs1 b hb))).push (fun b hb => hfr.at 4 rfl b (hs2 b hb))
        replace hf7_1 := hf7_1.sub hsu
        replace hf13_1 := hf13_1.sub hsu
        replace hf26_1 := hf26_1.sub hsu
        replace hf26_2 := hf26_2.sub hsu
        replace ho30 := ho30.sub hsu
        replace hc75 := hc75.sub hsu
        replace hc77 := hc77.sub hsu
        replace hs81 := hs81.sub hsu
        replace ho83 := ho83.sub hsu
        replace ho89 := OwnS.plain (M' := fl [blk ai87, blk a86, [b9], [b15], B23_l52, B89, blk (some ⟨g54, 0, none⟩), M]) (plain_int _) ho89
        have hg89 := hv87.eq
        have hx89 := hv87.at_
        clear hv87 hms2 hs1 hs2 hs3 hsu
        obtain ⟨w91, B91, hr91, he91, hn91, hR91⟩ := OwnR.cls (P := Try.prog) (plain_int _) tcell22 hf22_2 hg89 hx89 ho83 (hms.apart 1 5 rfl rfl rfl) (hms.ltat 5 rfl)
        refine x_store w91 (xv := .pointer (some ⟨g87, (Int.toNat x75.1), none⟩)) (yv := .slice a86 (((([] : List Int) ++ x79) ++ [x54])).length c86) rfl rfl rfl rfl hr91 ?_
        refine ⟨.inl rfl, ?_⟩
        have hms2 := hms.merge (C := blk a86 ++ B89) 1 5 rfl rfl (fun x hx => List.mem_append.1 hx)
        replace hfr : FR w.heap.size [blk ai87, [b9], [b15], B23_l52, blk a86 ++ B89, blk (some ⟨g54, 0, none⟩)] := (FR.cons (hfr.at 0 rfl) (FR.cons (hfr.at 2 rfl) (FR.cons (hfr.at 3 rfl) (FR.cons (hfr.at 4 rfl) (FR.cons (fun b hb => (List.mem_append.1 hb).elim (hfr.at 1 rfl b) (hfr.at 5 rfl b)) (FR.cons (hfr.at 6 rfl) (FR.nil _)))))))
        have hsu : ∀ x ∈ fl [blk ai87, [b9], [b15], B23_l52, blk a86 ++ B89, blk (some ⟨g54, 0, none⟩), M], x ∈ fl [blk ai87, blk a86, [b9], [b15], B23_l52, B89, blk (some ⟨g54, 0, none⟩), M] := merge_sub (ls := [blk ai87, blk a86, [b9], [b15], B23_l52, B89, blk (some ⟨g54, 0, none⟩), M]) (C := blk a86 ++ B89) 1 5 rfl rfl (fun x hx => List.mem_append.1 hx)
        replace hms : MS w86 [blk ai87, [b9], [b15], B23_l52, blk a86 ++ B89, blk (some ⟨g54, 0, none⟩), M] := hms2
        replace hf7_1 := hf7_1.sub hsu
        replace hf13_1 := hf13_1.sub hsu
        replace hf26_1 := hf26_1.sub hsu
        replace hf26_2 := hf26_2.sub hsu
        replace ho30 := ho30.sub hsu
        replace hc75 := hc75.sub hsu
        replace hc77 := hc77.sub hsu
        replace hs81 := hs81.sub hsu
        replace ho89 := ho89.sub hsu
        clear hms2 hsu
        have hst : Stp (fl [blk ai87, [b9], [b15], B23_l52, blk a86 ++ B89, blk (some ⟨g54, 0, none⟩), M]) w86 (fl [blk ai87, [b9], [b15], B23_l52, B91, blk (some ⟨g54, 0, none⟩), M]) w91 := Stp.upd 4 he91 rfl (fun b hb => (hn91 b hb).1)
        replace hb9 := he91.box hb9 (hms.apart 1 4 rfl rfl rfl _ (List.mem_singleton.2 rfl))
        replace hf7_1 := hf7_1.step hst
        replace hb15 := he91.box hb15 (hms.apart 2 4 rfl rfl rfl _ (List.mem_singleton.2 rfl))
        replace hf13_1 := hf13_1.step hst
        replace hf22_1 := hf22_1.step (plain_int _) he91 (hms.apart 3 4 rfl rfl rfl)
        replace hf26_1 := hf26_1.step hst
        replace hf26_2 := hf26_2.step hst
        replace ho30 := ho30.step hst he91 (hms.apart 5 4 rfl rfl rfl)
        replace hc75 := hc75.step hst
        replace hc77 := hc77.step hst
        replace hs81 := hs81.step hst
        replace ho89 := ho89.step hst he91 (hms.apart 0 4 rfl rfl rfl)
        replace hms : MS w91 [blk ai87, [b9], [b15], B23_l52, B91, blk (some ⟨g54, 0, none⟩), M] := hms.upd 4 he91 rfl hn91
        have hfr2 : FR w.heap.size [blk ai87, [b9], [b15], B23_l52, B91, blk (some ⟨g54, 0, none⟩)] := hfr.upd 4 rfl hev.size (fun b hb => (hn91 b hb).1)
        replace hev := hev.then he91 (fun b hb => .inr (hfr.at 4 rfl b hb))
        replace hfr := hfr2
        clear hfr2
        replace hf22_2 := hR91
        have hsl : (Value.slice a3_22 (d24_l52).length c3_22) = (Value.slice a3_22 ((d24_l52.set (Int.toNat x75.1) ((([] : List Int) ++ x79) ++ [x54]))).length c3_22) := by rw [List.length_set]
        try rw [hsl]
        clear hsl
        refine x_end rfl ?_
        refine t_stop ?_
        refine k_then ?_
        refine c_norm [(1, .int .i64 (IntKind.i64.wrap (1 + (Int.tmod (IntKind.i64.wrap ((Int.tmod p1 x12.1.1) + x12.1.1)) x12.1.1)))), (6, .pointer (some ⟨b9, 0, none⟩)), (7, .pointer (some ⟨b15, 0, none⟩)), (8, .slice a0_22 (d23_l52).length c0_22), (9, .slice a3_22 ((d24_l52.set (Int.toNat x75.1) ((([] : List Int) ++ x79) ++ [x54]))).length c3_22), (11, .slice a0_26 (x25.1).length c0_26), (12, .slice a3_26 (x25.2.1).length c3_26), (110, .slice (some ⟨g54, 0, none⟩) (d31_l36).length c31_l36), (111, .int .i64 ((d31_l36).length : Int)), (112, .int .i64 t112__s112_l52)] ⟨rfl, rfl, rfl, rfl, rfl, rfl, rfl, rfl, rfl, rfl, trivial⟩ (fun J => ?_)
        refine c_exit ?_
        refine k_then_exit ?_
        refine k_block_in ?_
        refine k_then ?_
        refine c_plain ?_
        refine x_pure 2 [(210, .int .i64 (IntKind.i64.wrap (t112__s112_l52 + 1))), (112, .int .i64 (IntKind.i64.wrap (t112__s112_l52 + 1)))] _ _ _ (by kernel_rfl) ?_
        refine x_end rfl ?_
        have hx := some_inj h
        subst hx
        have hpk : MS w91 [[b9], [b15], B23_l52, B91, blk (some ⟨g54, 0, none⟩), M] := hms.pick [some 1, some 2, some 3, some 4, some 5, some 6] _ rfl
        have hsu : ∀ x ∈ fl [[b9], [b15], B23_l52, B91, blk (some ⟨g54, 0, none⟩), M], x ∈ fl [blk ai87, [b9], [b15], B23_l52, B91, blk (some ⟨g54, 0, none⟩), M] := pick_sub [some 1, some 2, some 3, some 4, some 5, some 6] _ rfl
        replace hf7_1 := hf7_1.sub hsu
        replace hf13_1 := hf13_1.sub hsu
        replace hf26_1 := hf26_1.sub hsu
        replace hf26_2 := hf26_2.sub hsu
        replace ho30 := ho30.sub hsu
        replace hms := hpk
        replace hfr : FR w.heap.size [[b9], [b15], B23_l52, B91, blk (some ⟨g54, 0, none⟩)] := hfr.pick [some 1, some 2, some 3, some 4, some 5] _ rfl
        clear hpk hsu
        exact k_then ⟨(m52, d23_l52, (d24_l52.set (Int.toNat x75.1) ((([] : List Int) ++ x79) ++ [x54])), IntKind.i64.wrap (t112__s112_l52 + 1), B23_l52, B91, (some ⟨g54, 0, none⟩)), ⟨rfl, rfl, rfl, rfl, rfl, rfl, rfl, rfl, rfl, rfl, trivial⟩, ⟨hn52, hev, hms, hfr, hf7_1, hb9, hf13_1, hb15, hf22_1, hf22_2, hf26_1, hf26_2, ho30⟩, Nat.lt_succ_self _⟩
      exact t_none
    replace h := ite_f hb h
    refine c_skip ?_
    refine k_then ?_
    refine c_seq ?_
    refine c_seq (c_plain ?_)
    refine x_pure 2 [(194, .int .i64 to_s21_l68), (195, .slice a0_22 (d23_l52).length c0_22)] _ _ _ (by kernel_rfl) ?_
    refine x_len (vs := [.slice a0_22 (d23_l52).length c0_22]) (.int .i64 ((d23_l52).length : Int)) rfl rfl rfl (reads_len tsl32 _ _ _ _ _) ?_
    refine x_pure 1 [(197, .bool (decide (to_s21_l68 ≥ ((d23_l52).length : Int))))] _ _ _ (by kernel_rfl) ?_
    refine x_end rfl (k_then ?_)
    refine c_cond (decide (to_s21_l68 ≥ ((d23_l52).length : Int))) rfl (fun hb => ?_) (fun hb => ?_)
    · replace h := ite_t hb h
      refine c_seq (c_plain ?_)
      refine x_pure 1 [(4, .bool false)] _ _ _ (by kernel_rfl) ?_
      refine x_end rfl (k_then ?_)
      refine c_ret ?_
      refine k_then_ret ?_
      refine k_block_ret ?_
      refine k_then_ret ?_
      have hx := some_inj h
      subst hx
      have hy := some_inj hn52
      subst hy
      replace h := h52
      refine k_then_ret ?_
      refine k_block_ret ?_
      refine k_then_ret ?_
      refine r_ret (r_vals [.bool false] ⟨rfl, trivial⟩ ?_)
      have hx := some_inj h
      subst hx
      have hmr : MS wl68 [M] := hms.pick [some 5] _ rfl
      have hsu : ∀ x ∈ fl [M], x ∈ fl [[b9], [b15], B23_l52, B24_l52, blk (some ⟨g54, 0, none⟩), M] := pick_sub [some 5] _ rfl
      exact ⟨rfl, hev⟩
    replace h := ite_f hb h
    refine c_skip ?_
    refine k_then ?_
    refine c_plain ?_
    refine x_pure 2 [(198, .slice a0_22 (d23_l52).length c0_22), (199, .int .i64 to_s21_l68)] _ _ _ (by kernel_rfl) ?_
    refine x_buildSlice (vs := []) #[] 3 rfl rfl rfl (by kernel_rfl) (fun b82 w82 hq82 hb82 he82 hz82 => ?_)
    refine ⟨.inl rfl, ?_⟩
    obtain ⟨a82, ea82⟩ : ∃ a, a = some (⟨b82, 0, none⟩ : Addr) := ⟨_, rfl⟩
    have hw82 : ∀ M, OwnS (eInt .i64) 3 w82 M a82 0 ([] : List Int) := fun M => ea82 ▸ own_of_box hb82 (by decide) rfl rfl (cells_at (cs := []) CellsOf.nil)
    have hn82 : ∀ b ∈ blk a82, wl68.heap.size ≤ b ∧ b < w82.heap.size := by subst ea82; intro b hb; simp only [blk, List.mem_singleton] at hb; subst hb; exact ⟨Nat.le_of_eq hq82.symm, lt_of_heap hb82⟩
    clear hb82
    have hst := Stp.push (ls := [[b9], [b15], B23_l52, B24_l52, blk (some ⟨g54, 0, none⟩), M]) (l := blk a82) he82 (fun _ h => by cases h) (fun b hb => (hn82 b hb).1)
    replace hb9 := he82.box hb9 nn
    replace hf7_1 := hf7_1.step hst
    replace hb15 := he82.box hb15 nn
    replace hf13_1 := hf13_1.step hst
    replace hf22_1 := hf22_1.step (plain_int _) he82 nn2
    replace hf22_2 := hf22_2.step (plain_int _) he82 nn2
    replace hf26_1 := hf26_1.step hst
    replace hf26_2 := hf26_2.step hst
    replace ho30 := ho30.step hst he82 nn2
    replace hms := hms.push he82 hn82
    replace hfr := hfr.push (fun b hb => Nat.le_trans hev.size (hn82 b hb).1)
    replace hev := hev.ext he82
    have ho82 := hw82 (fl [blk a82, [b9], [b15], B23_l52, B24_l52, blk (some ⟨g54, 0, none⟩), M])
    clear hw82
    rw [← ea82]
    refine x_pure 2 [(201, .slice a0_22 (d23_l52).length c0_22), (202, .int .i64 to_s21_l68)] _ _ _ (by kernel_rfl) ?_
    obtain ⟨x84, hx84, h⟩ := bind_some h
    obtain ⟨g84, ai84, ci84, hr84, hv84⟩ := OwnR.view (P := Try.prog) (Mo := []) tsl32 hf22_1 hx84
    refine x_indexAddr (xv := .slice a0_22 (d23_l52).length c0_22) (yv := .int .i64 to_s21_l68) (.pointer (some ⟨g84, (Int.toNat to_s21_l68), none⟩)) rfl rfl rfl rfl hr84 ?_
    refine x_load (xv := .pointer (some ⟨g84, (Int.toNat to_s21_l68), none⟩)) (.slice ai84 (x84).length ci84) rfl rfl rfl (RView.load tcell22 hv84) ?_
    have hg := guard_l h
    replace h := guard_r h
    obtain ⟨a86, c86, w86, hr86, he86, hn86, hm86, hw86⟩ := own_appendN (M := (blk a82)) tel22 22 (OwnS.plain (plain_int _) ho82) (fun _ h => h) (RView.ro (plain_int _) hv84 (hms.apart 3 0 rfl rfl rfl)) hg
    refine x_builtin (vs := [.slice a82 (([] : List Int)).length 0, .slice ai84 (x84).length ci84]) _ w86 rfl rfl rfl rfl (run_value _ _ _ _ hr86) ?_
    refine ⟨.inl rfl, ?_⟩
    have hst : Stp (fl [blk a82, [b9], [b15], B23_l52, B24_l52, blk (some ⟨g54, 0, none⟩), M]) w82 (fl [blk a86, [b9], [b15], B23_l52, B24_l52, blk (some ⟨g54, 0, none⟩), M]) w86 := Stp.upd 0 he86 rfl (fun b hb => (hn86 b hb).1)
    replace hb9 := he86.box hb9 (hms.apart 1 0 rfl rfl rfl _ (List.mem_singleton.2 rfl))
    replace hf7_1 := hf7_1.step hst
    replace hb15 := he86.box hb15 (hms.apart 2 0 rfl rfl rfl _ (List.mem_singleton.2 rfl))
    replace hf13_1 := hf13_1.step hst
    replace hf22_1 := hf22_1.step (plain_int _) he86 (hms.apart 3 0 rfl rfl rfl)
    replace hf22_2 := hf22_2.step (plain_int _) he86 (hms.apart 4 0 rfl rfl rfl)
    replace hf26_1 := hf26_1.step hst
    replace hf26_2 := hf26_2.step hst
    replace ho30 := ho30.step hst he86 (hms.apart 5 0 rfl rfl rfl)
    replace hv84 := hv84.step (plain_int _) he86 (hms.apart 3 0 rfl rfl rfl)
    replace hms : MS w86 [blk a86, [b9], [b15], B23_l52, B24_l52, blk (some ⟨g54, 0, none⟩), M] := hms.upd 0 he86 rfl hn86
    have hfr2 : FR w.heap.size [blk a86, [b9], [b15], B23_l52, B24_l52, blk (some ⟨g54, 0, none⟩)] := hfr.upd 0 rfl hev.size (fun b hb => (hn86 b hb).1)
    replace hev := hev.then he86 (fun b hb => .inr (hfr.at 0 rfl b hb))
    replace hfr := hfr2
    clear hfr2
    replace ho82 := OwnS.plain (M' := fl [blk a86, [b9], [b15], B23_l52, B24_l52, blk (some ⟨g54, 0, none⟩), M]) (plain_int _) (hw86 [] (fun _ h => by cases h))
    clear hw86
    refine x_pure 1 [(206, .int .i64 x54)] _ _ _ (by kernel_rfl) ?_
    refine x_buildSlice (vs := [(0, .int .i64 x54)]) #[.int .i64 x54] 3 rfl rfl rfl (by kernel_rfl) (fun b87 w87 hq87 hb87 he87 hz87 => ?_)
    refine ⟨.inl rfl, ?_⟩
    have hms0 := hms
    have hst := Stp.ext (ls := [blk a86, [b9], [b15], B23_l52, B24_l52, blk (some ⟨g54, 0, none⟩), M]) he87
    replace hb9 := he87.box hb9 nn
    replace hf7_1 := hf7_1.step hst
    replace hb15 := he87.box hb15 nn
    replace hf13_1 := hf13_1.step hst
    replace hf22_1 := hf22_1.step (plain_int _) he87 nn2
    replace hf22_2 := hf22_2.step (plain_int _) he87 nn2
    replace hf26_1 := hf26_1.step hst
    replace hf26_2 := hf26_2.step hst
    replace ho30 := ho30.step hst he87 nn2
    replace ho82 := ho82.step hst he87 nn2
    replace hv84 := hv84.step (plain_int _) he87 nn2
    replace hms := hms.ev he87
    replace hev := hev.ext he87
    have hs87 : SlR (eInt .i64) w87 (fl [blk a86, [b9], [b15], B23_l52, B24_l52, blk (some ⟨g54, 0, none⟩), M]) (some ⟨b87, 0, none⟩) 1 ([x54]) := ro_of_box hms0 hq87 hb87 rfl rfl (cells_at (cs := [.int .i64 x54]) (CellsOf.cons (c := [.int .i64 x54]) rfl CellsOf.nil))
    clear hb87 hms0
    have hg := guard_l h
    replace h := guard_r h
    obtain ⟨a89, c89, w89, hr89, he89, hn89, hm89, hw89⟩ := own_appendN tel22 22 ho82 (mem_flat 0 rfl) hs87 hg
    refine x_builtin (vs := [.slice a86 ((([] : List Int) ++ x84)).length c86, .slice (some ⟨b87, 0, none⟩) ([x54]).length 1]) _ w89 rfl rfl rfl rfl (run_value _ _ _ _ hr89) ?_
    refine ⟨.inl rfl, ?_⟩
    have hst : Stp (fl [blk a86, [b9], [b15], B23_l52, B24_l52, blk (some ⟨g54, 0, none⟩), M]) w87 (fl [blk a89, [b9], [b15], B23_l52, B24_l52, blk (some ⟨g54, 0, none⟩), M]) w89 := Stp.upd 0 he89 rfl (fun b hb => (hn89 b hb).1)
    replace hb9 := he89.box hb9 (hms.apart 1 0 rfl rfl rfl _ (List.mem_singleton.2 rfl))
    replace hf7_1 := hf7_1.step hst
    replace hb15 := he89.box hb15 (hms.apart 2 0 rfl rfl rfl _ (List.mem_singleton.2 rfl))
    replace hf13_1 := hf13_1.step hst
    replace hf22_1 := hf22_1.step (plain_int _) he89 (hms.apart 3 0 rfl rfl rfl)
    replace hf22_2 := hf22_2.step (plain_int _) he89 (hms.apart 4 0 rfl rfl rfl)
    replace hf26_1 := hf26_1.step hst
    replace hf26_2 := hf26_2.step hst
    replace ho30 := ho30.step hst he89 (hms.apart 5 0 rfl rfl rfl)
    replace hv84 := hv84.step (plain_int _) he89 (hms.apart 3 0 rfl rfl rfl)
    replace hs87 := hs87.step hst
    replace hms : MS w89 [blk a89, [b9], [b15], B23_l52, B24_l52, blk (some ⟨g54, 0, none⟩), M] := hms.upd 0 he89 rfl hn89
    have hfr2 : FR w.heap.size [blk a89, [b9], [b15], B23_l52, B24_l52, blk (some ⟨g54, 0, none⟩)] := hfr.upd 0 rfl hev.size (fun b hb => (hn89 b hb).1)
    replace hev := hev.then he89 (fun b hb => .inr (hfr.at 0 rfl b hb))
    replace hfr := hfr2
    clear hfr2
    replace ho82 := hw89 (fl [blk a89, [b9], [b15], B23_l52, B24_l52, blk (some ⟨g54, 0, none⟩), M]) hst.new
    clear hw89
    obtain ⟨x90, hx90, h⟩ := bind_some h
    obtain ⟨g90, ai90, ci90, hr90, hv90⟩ := OwnR.view (P := Try.prog) (Mo := []) tsl32 hf22_1 hx90
    refine x_indexAddr (xv := .slice a0_22 (d23_l52).length c0_22) (yv := .int .i64 to_s21_l68) (.pointer (some ⟨g90, (Int.toNat to_s21_l68), none⟩)) rfl rfl rfl rfl hr90 ?_
    obtain ⟨B92, hR92, ho92, hs1, hs2, hs3⟩ := OwnR.opn hf22_1 hv84
    replace hf22_1 := hR92
    have hms2 := hms.split 3 rfl hs2 hs1 hs3
    have hsu : ∀ x ∈ fl [blk ai84, blk a89, [b9], [b15], B92, B24_l52, blk (some ⟨g54, 0, none⟩), M], x ∈ fl [blk a89, [b9], [b15], B23_l52, B24_l52, blk (some ⟨g54, 0, none⟩), M] := split_sub (ls := [blk a89, [b9], [b15], B23_l52, B24_l52, blk (some ⟨g54, 0, none⟩), M]) 3 rfl hs2 hs1
    replace hms : MS w89 [blk ai84, blk a89, [b9], [b15], B92, B24_l52, blk (some ⟨g54, 0, none⟩), M] := hms2
    replace hfr : FR w.heap.size [blk ai84, blk a89, [b9], [b15], B92, B24_l52, blk (some ⟨g54, 0, none⟩)] := (hfr.upd 3 rfl hev.size (fun b hb => .inl (hs1 b hb))).push (fun b hb => hfr.at 3 rfl b (hs2 b hb))
    replace hf7_1 := hf7_1.sub hsu
    replace hf13_1 := hf13_1.sub hsu
    replace hf26_1 := hf26_1.sub hsu
    replace hf26_2 := hf26_2.sub hsu
    replace ho30 := ho30.sub hsu
    replace ho82 := ho82.sub hsu
    replace hs87 := hs87.sub hsu
    replace ho92 := OwnS.plain (M' := fl [blk ai84, blk a89, [b9], [b15], B92, B24_l52, blk (some ⟨g54, 0, none⟩), M]) (plain_int _) ho92
    have hg92 := hv84.eq
    have hx92 := hv84.at_
    clear hv84 hms2 hs1 hs2 hs3 hsu
    have hg92_91 := hv90.eq
    have hx92_91 := hv90.at_
    clear hv90
    obtain ⟨w94, B94, hr94, he94, hn94, hR94⟩ := OwnR.cls (P := Try.prog) (plain_int _) tcell22 hf22_1 hg92_91 hx92_91 ho82 (hms.apart 1 4 rfl rfl rfl) (hms.ltat 4 rfl)
    refine x_store w94 (xv := .pointer (some ⟨g90, (Int.toNat to_s21_l68), none⟩)) (yv := .slice a89 (((([] : List Int) ++ x84) ++ [x54])).length c89) rfl rfl rfl rfl hr94 ?_
    refine ⟨.inl rfl, ?_⟩
    have hms2 := hms.merge (C := blk a89 ++ B92) 1 4 rfl rfl (fun x hx => List.mem_append.1 hx)
    replace hfr : FR w.heap.size [blk ai84, [b9], [b15], blk a89 ++ B92, B24_l52, blk (some ⟨g54, 0, none⟩)] := (FR.cons (hfr.at 0 rfl) (FR.cons (hfr.at 2 rfl) (FR.cons (hfr.at 3 rfl) (FR.cons (fun b hb => (List.mem_append.1 hb).elim (hfr.at 1 rfl b) (hfr.at 4 rfl b)) (FR.cons (hfr.at 5 rfl) (FR.cons (hfr.at 6 rfl) (FR.nil _)))))))
    have hsu : ∀ x ∈ fl [blk ai84, [b9], [b15], blk a89 ++ B92, B24_l52, blk (some ⟨g54, 0, none⟩), M], x ∈ fl [blk ai84, blk a89, [b9], [b15], B92, B24_l52, blk (some ⟨g54, 0, none⟩), M] := merge_sub (ls := [blk ai84, blk a89, [b9], [b15], B92, B24_l52, blk (some ⟨g54, 0, none⟩), M]) (C := blk a89 ++ B92) 1 4 rfl rfl (fun x hx => List.mem_append.1 hx)
    replace hms : MS w89 [blk ai84, [b9], [b15], blk a89 ++ B92, B24_l52, blk (some ⟨g54, 0, none⟩), M] := hms2
    replace hf7_1 := hf7_1.sub hsu
    replace hf13_1 := hf13_1.sub hsu
    replace hf26_1 := hf26_1.sub hsu
    replace hf26_2 := hf26_2.sub hsu
    replace ho30 := ho30.sub hsu
    replace hs87 := hs87.sub hsu
    replace ho92 := ho92.sub hsu
    clear hms2 hsu
    have hst : Stp (fl [blk ai84, [b9], [b15], blk a89 ++ B92, B24_l52, blk (some ⟨g54, 0, none⟩), M]) w89 (fl [blk ai84, [b9], [b15], B94, B24_l52, blk (some ⟨g54, 0, none⟩), M]) w94 := Stp.upd 3 he94 rfl (fun b hb => (hn94 b hb).1)
    replace hb9 := he94.box hb9 (hms.apart 1 3 rfl rfl rfl _ (List.mem_singleton.2 rfl))
    replace hf7_1 := hf7_1.step hst
    replace hb15 := he94.box hb15 (hms.apart 2 3 rfl rfl rfl _ (List.mem_singleton.2 rfl))
    replace hf13_1 := hf13_1.step hst
    replace hf22_2 := hf22_2.step (plain_int _) he94 (hms.apart 4 3 rfl rfl rfl)
    replace hf26_1 := hf26_1.step hst
    replace hf26_2 := hf26_2.step hst
    replace ho30 := ho30.step hst he94 (hms.apart 5 3 rfl rfl rfl)
    replace hs87 := hs87.step hst
    replace ho92 := ho92.step hst he94 (hms.apart 0 3 rfl rfl rfl)
    replace hms : MS w94 [blk ai84, [b9], [b15], B94, B24_l52, blk (some ⟨g54, 0, none⟩), M] := hms.upd 3 he94 rfl hn94
    have hfr2 : FR w.heap.size [blk ai84, [b9], [b15], B94, B24_l52, blk (some ⟨g54, 0, none⟩)] := hfr.upd 3 rfl hev.size (fun b hb => (hn94 b hb).1)
    replace hev := hev.then he94 (fun b hb => .inr (hfr.at 3 rfl b hb))
    replace hfr := hfr2
    clear hfr2
    replace hf22_1 := hR94
    have hsl : (Value.slice a0_22 (d23_l52).length c0_22) = (Value.slice a0_22 ((d23_l52.set (Int.toNat to_s21_l68) ((([] : List Int) ++ x84) ++ [x54]))).length c0_22) := by rw [List.length_set]
    try rw [hsl]
    clear hsl
    refine x_end rfl ?_
    refine k_block ?_
    refine k_then ?_
    refine c_norm [(1, .int .i64 (IntKind.i64.wrap (1 + (Int.tmod (IntKind.i64.wrap ((Int.tmod p1 x12.1.1) + x12.1.1)) x12.1.1)))), (6, .pointer (some ⟨b9, 0, none⟩)), (7, .pointer (some ⟨b15, 0, none⟩)), (8, .slice a0_22 ((d23_l52.set (Int.toNat to_s21_l68) ((([] : List Int) ++ x84) ++ [x54]))).length c0_22), (9, .slice a3_22 (d24_l52).length c3_22), (11, .slice a0_26 (x25.1).length c0_26), (12, .slice a3_26 (x25.2.1).length c3_26), (110, .slice (some ⟨g54, 0, none⟩) (d31_l36).length c31_l36), (111, .int .i64 ((d31_l36).length : Int)), (112, .int .i64 t112__s112_l52)] ⟨rfl, rfl, rfl, rfl, rfl, rfl, rfl, rfl, rfl, rfl, trivial⟩ (fun J => ?_)
    refine c_plain ?_
    refine x_pure 2 [(210, .int .i64 (IntKind.i64.wrap (t112__s112_l52 + 1))), (112, .int .i64 (IntKind.i64.wrap (t112__s112_l52 + 1)))] _ _ _ (by kernel_rfl) ?_
    refine x_end rfl ?_
    have hx := some_inj h
    subst hx
    have hpk : MS w94 [[b9], [b15], B94, B24_l52, blk (some ⟨g54, 0, none⟩), M] := hms.pick [some 1, some 2, some 3, some 4, some 5, some 6] _ rfl
    have hsu : ∀ x ∈ fl [[b9], [b15], B94, B24_l52, blk (some ⟨g54, 0, none⟩), M], x ∈ fl [blk ai84, [b9], [b15], B94, B24_l52, blk (some ⟨g54, 0, none⟩), M] := pick_sub [some 1, some 2, some 3, some 4, some 5, some 6] _ rfl
    replace hf7_1 := hf7_1.sub hsu
    replace hf13_1 := hf13_1.sub hsu
    replace hf26_1 := hf26_1.sub hsu
    replace hf26_2 := hf26_2.sub hsu
    replace ho30 := ho30.sub hsu
    replace hms := hpk
    replace hfr : FR w.heap.size [[b9], [b15], B94, B24_l52, blk (some ⟨g54, 0, none⟩)] := hfr.pick [some 1, some 2, some 3, some 4, some 5] _ rfl
    clear hpk hsu
    exact k_then ⟨(m52, (d23_l52.set (Int.toNat to_s21_l68) ((([] : List Int) ++ x84) ++ [x54])), d24_l52, IntKind.i64.wrap (t112__s112_l52 + 1), B94, B24_l52, (some ⟨g54, 0, none⟩)), ⟨rfl, rfl, rfl, rfl, rfl, rfl, rfl, rfl, rfl, rfl, trivial⟩, ⟨hn52, hev, hms, hfr, hf7_1, hb9, hf13_1, hb15, hf22_1, hf22_2, hf26_1, hf26_2, ho30⟩, Nat.lt_succ_self _⟩
  replace h := ite_f hb h
  refine c_exit ?_
  refine k_then_exit ?_
  have hx := some_inj h
  subst hx
  have hy := some_inj hn52
  subst hy
  replace h := h52
  refine k_then_exit ?_
  refine k_block_in ?_
  refine k_then ?_
  refine c_norm [(8, .slice a0_22 (d23_l52).length c0_22), (9, .slice a3_22 (d24_l52).length c3_22), (11, .slice a0_26 (x25.1).length c0_26), (12, .slice a3_26 (x25.2.1).length c3_26)] ⟨rfl, rfl, rfl, rfl, trivial⟩ (fun J => ?_)
  refine c_seq (c_plain ?_)
  refine x_pure 2 [(211, .slice a0_22 (d23_l52).length c0_22), (212, .slice a0_26 (x25.1).length c0_26)] _ _ _ (by kernel_rfl) ?_
  obtain ⟨x95, hx, h⟩ := bind_some h
  have hpk : MS wl52 ([] ++ [[b9], [b15], B24_l52, blk a31_l52, M]) := hms.pick [some 0, some 1, some 3, some 4, some 5] _ rfl
  have hsb0 : ∀ x ∈ fl ([] ++ [[b9], [b15], B24_l52, blk a31_l52, M]), x ∈ fl [[b9], [b15], B23_l52, B24_l52, blk a31_l52, M] := pick_sub [some 0, some 1, some 3, some 4, some 5] _ rfl
  have hsb : ∀ x ∈ fl ([] ++ [(fl [[b9], [b15], B24_l52, blk a31_l52, M])]), x ∈ fl [[b9], [b15], B23_l52, B24_l52, blk a31_l52, M] := fun x hx => hsb0 x (fl_unfold x hx)
  have hcall := gen_Lists_w a0_22 c0_22 d23_l52 a0_26 c0_26 x25.1 _ wl52 (fl [[b9], [b15], B24_l52, blk a31_l52, M]) (MS.fold (P := []) hpk) (OwnR.ro (plain_int _) hf22_1 (fun b hb hb2 => pick_out hms 2 rfl [some 0, some 1, some 3, some 4, some 5] ([] ++ [[b9], [b15], B24_l52, blk a31_l52, M]) rfl rfl b hb (fl_unfold b hb2))) (hf26_1.sub hsb) hx
  refine x_call 20 #[] #[] [.slice a0_22 (d23_l52).length c0_22, .slice a0_26 (x25.1).length c0_26] _ rfl rfl rfl rfl hcall ?_
  rintro v w96 ⟨rfl, he96⟩
  clear hcall hx
  refine ⟨.inl rfl, ?_⟩
  have hst := Stp.ext (ls := [[b9], [b15], B23_l52, B24_l52, blk a31_l52, M]) he96
  replace hb9 := he96.box hb9 nn
  replace hf7_1 := hf7_1.step hst
  replace hb15 := he96.box hb15 nn
  replace hf13_1 := hf13_1.step hst
  replace hf22_1 := hf22_1.step (plain_int _) he96 nn2
  replace hf22_2 := hf22_2.step (plain_int _) he96 nn2
  replace hf26_1 := hf26_1.step hst
  replace hf26_2 := hf26_2.step hst
  replace ho30 := ho30.step hst he96 nn2
  replace hms := hms.ev he96
  replace hev := hev.ext he96
  clear hpk hsb hsb0
  refine x_pure 1 [(214, .bool x95)] _ _ _ (by kernel_rfl) ?_
  refine x_split 214 x95 rfl (fun hb => ?_) (fun hb => ?_)
  · replace h := ite_t hb h
    refine x_pure 2 [(215, .slice a3_22 (d24_l52).length c3_22), (216, .slice a3_26 (x25.2.1).length c3_26)] _ _ _ (by kernel_rfl) ?_
    obtain ⟨x97, hx, h⟩ := bind_some h
    have hpk : MS w96 ([] ++ [[b9], [b15], B23_l52, blk a31_l52, M]) := hms.pick [some 0, some 1, some 2, some 4, some 5] _ rfl
    have hsb0 : ∀ x ∈ fl ([] ++ [[b9], [b15], B23_l52, blk a31_l52, M]), x ∈ fl [[b9], [b15], B23_l52, B24_l52, blk a31_l52, M] := pick_sub [some 0, some 1, some 2, some 4, some 5] _ rfl
    have hsb : ∀ x ∈ fl ([] ++ [(fl [[b9], [b15], B23_l52, blk a31_l52, M])]), x ∈ fl [[b9], [b15], B23_l52, B24_l52, blk a31_l52, M] := fun x hx => hsb0 x (fl_unfold x hx)
    have hcall := gen_Lists_w a3_22 c3_22 d24_l52 a3_26 c3_26 x25.2.1 _ w96 (fl [[b9], [b15], B23_l52, blk a31_l52, M]) (MS.fold (P := []) hpk) (OwnR.ro (plain_int _) hf22_2 (fun b hb hb2 => pick_out hms 3 rfl [some 0, some 1, some 2, some 4, some 5] ([] ++ [[b9], [b15], B23_l52, blk a31_l52, M]) rfl rfl b hb (fl_unfold b hb2))) (hf26_2.sub hsb) hx
    refine x_call 20 #[] #[] [.slice a3_22 (d24_l52).length c3_22, .slice a3_26 (x25.2.1).length c3_26] _ rfl rfl rfl rfl hcall ?_
    rintro v w98 ⟨rfl, he98⟩
    clear hcall hx
    refine ⟨.inl rfl, ?_⟩
    have hst := Stp.ext (ls := [[b9], [b15], B23_l52, B24_l52, blk a31_l52, M]) he98
    replace hb9 := he98.box hb9 nn
    replace hf7_1 := hf7_1.step hst
    replace hb15 := he98.box hb15 nn
    replace hf13_1 := hf13_1.step hst
    replace hf22_1 := hf22_1.step (plain_int _) he98 nn2
    replace hf22_2 := hf22_2.step (plain_int _) he98 nn2
    replace hf26_1 := hf26_1.step hst
    replace hf26_2 := hf26_2.step hst
    replace ho30 := ho30.step hst he98 nn2
    replace hms := hms.ev he98
    replace hev := hev.ext he98
    clear hpk hsb hsb0
    refine x_pure 2 [(218, .bool x97), (219, .bool x97)] _ _ _ (by kernel_rfl) ?_
    refine x_split 219 x97 rfl (fun hb => ?_) (fun hb => ?_)
    · replace h := ite_t hb h
      obtain ⟨x99, hx, h⟩ := bind_some h
      have hcall := law14_sane_w _ w98 hx
      refine x_call 15 #[] #[] [] _ rfl rfl rfl rfl hcall ?_
      rintro v w100 ⟨rfl, he100⟩
      clear hcall hx
      refine ⟨.inl rfl, ?_⟩
      have hst := Stp.ext (ls := [[b9], [b15], B23_l52, B24_l52, blk a31_l52, M]) he100
      replace hb9 := he100.box hb9 nn
      replace hf7_1 := hf7_1.step hst
      replace hb15 := he100.box hb15 nn
      replace hf13_1 := hf13_1.step hst
      replace hf22_1 := hf22_1.step (plain_int _) he100 nn2
      replace hf22_2 := hf22_2.step (plain_int _) he100 nn2
      replace hf26_1 := hf26_1.step hst
      replace hf26_2 := hf26_2.step hst
      replace ho30 := ho30.step hst he100 nn2
      replace hms := hms.ev he100
      replace hev := hev.ext he100
      refine x_pure 2 [(221, .bool x99), (4, .bool x99)] _ _ _ (by kernel_rfl) ?_
      refine x_end rfl (k_then ?_)
      refine c_norm [(4, .bool x99)] ⟨rfl, trivial⟩ (fun J => ?_)
      refine c_ret ?_
      refine r_ret (r_vals [.bool x99] ⟨rfl, trivial⟩ ?_)
      have hx := some_inj h
      subst hx
      have hmr : MS w100 [M] := hms.pick [some 5] _ rfl
      have hsu : ∀ x ∈ fl [M], x ∈ fl [[b9], [b15], B23_l52, B24_l52, blk a31_l52, M] := pick_sub [some 5] _ rfl
      exact ⟨rfl, hev⟩
    replace h := ite_f hb h
    refine x_pure 3 [(220, undef), (221, .bool false), (4, .bool false)] _ _ _ (by kernel_rfl) ?_
    refine x_end rfl (k_then ?_)
    refine c_norm [(4, .bool false)] ⟨rfl, trivial⟩ (fun J => ?_)
    refine c_ret ?_
    refine r_ret (r_vals [.bool false] ⟨rfl, trivial⟩ ?_)
    have hx := some_inj h
    subst hx
    have hmr : MS w98 [M] := hms.pick [some 5] _ rfl
    have hsu : ∀ x ∈ fl [M], x ∈ fl [[b9], [b15], B23_l52, B24_l52, blk a31_l52, M] := pick_sub [some 5] _ rfl
    exact ⟨rfl, hev⟩
  replace h := ite_f hb h
  refine x_pure 8 [(215, undef), (216, undef), (217, undef), (218, .bool false), (219, .bool false), (220, undef), (221, .bool false), (4, .bool false)] _ _ _ (by kernel_rfl) ?_
  refine x_end rfl (k_then ?_)
  refine c_ret ?_
  refine r_ret (r_vals [.bool false] ⟨rfl, trivial⟩ ?_)
  have hx := some_inj h
  subst hx
  have hmr : MS w96 [M] := hms.pick [some 5] _ rfl
  have hsu : ∀ x ∈ fl [M], x ∈ fl [[b9], [b15], B23_l52, B24_l52, blk a31_l52, M] := pick_sub [some 5] _ rfl
  exact ⟨rfl, hev⟩
end Go.Proofs.Ytmjobkpgnhbcbaa
