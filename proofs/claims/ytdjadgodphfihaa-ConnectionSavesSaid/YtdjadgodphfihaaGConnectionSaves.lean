/- Walks, printed by program: each function returns what the partial function of the same name returns. Conditions: those of each theorem. -/
import Derived.Test.YtdjadgodphfihaaGT
import Derived.Test.YtdjadgodphfihaaGconnection
import Derived.Test.YtdjadgodphfihaaGgen
import Derived.Test.YtdjadgodphfihaaGlaw41made
import Derived.Test.YtdjadgodphfihaaGlaw41sane
import Derived.Test.YtdjadgodphfihaaGyardgen
set_option linter.unusedVariables false
set_option linter.unusedSimpArgs false
set_option maxRecDepth 4000
namespace Go.Proofs.Ytdjadgodphfihaa
open Go Go.V Go.Proofs
def law41_ConnectionSaves_J31 (x12 : (List Int) × Int) (i_s15_l29 : Int) (found_s14_j31 : Bool) : Option (Step (Bool × Int) (Unit ⊕ Bool)) :=
(if (decide (i_s15_l29 > 0)) = true then
((idx x12.1 i_s15_l29).bind fun x34 =>
((idx x12.1 (IntKind.i64.wrap (i_s15_l29 - 1))).bind fun x36 =>
(if (decide (x34 ≤ x36)) = true then
some (.done (.inl ()))
else
some (.next (found_s14_j31, IntKind.i64.wrap (i_s15_l29 + 1))))))
else
some (.next (found_s14_j31, IntKind.i64.wrap (i_s15_l29 + 1))))

def law41_ConnectionSaves_L29 (x12 : (List Int) × Int) (x26 : Int × Int × Int) (s : Bool × Int) : Option (Step (Bool × Int) (Unit ⊕ Bool)) :=
match s with
| (found_s14_l29, i_s15_l29) =>
(if (decide (i_s15_l29 < ((x12.1).length : Int))) = true then
(if found_s14_l29 = true then
law41_ConnectionSaves_J31 x12 i_s15_l29 true
else
((idx x12.1 i_s15_l29).bind fun x32 =>
law41_ConnectionSaves_J31 x12 i_s15_l29 (x32 == x26.1)))
else
some (.done (.inr found_s14_l29)))

def law41_ConnectionSaves (p0 : List Int) (p1 : Int) (p2 : Int) : Option Bool :=
((gen_New p0).bind fun x2 =>
((law41_made x2.1 x2.2).bind fun x6 =>
((connection_Saves x6.1.1 x6.1.2.1 x6.1.2.2.1 x6.1.2.2.2.1 x6.1.2.2.2.2).bind fun x12 =>
(if (x12.2 != 0) = true then
some false
else
(if (((x12.1).length : Int) == 0) = true then
some false
else
((idx x12.1 0).bind fun x16 =>
(if (x16 != x6.1.1) = true then
some false
else
((idx x12.1 (IntKind.i64.wrap (((x12.1).length : Int) - 1))).bind fun x18 =>
(if (decide (x18 > x6.1.2.1)) = true then
some false
else
((yardgen_Place p1 1000001).bind fun x20 =>
((yardgen_Place p2 1000001).bind fun x22 =>
((connection_Best x6.1.1 x6.1.2.1 x6.1.2.2.1 x20 x22).bind fun x26 =>
((loop (law41_ConnectionSaves_L29 x12 x26) (false, 0)).bind fun d => match d with
| (.inl _) => some false
| (.inr found_s14_x2901) => (if (x26.2.2 == 0) = true then
(if found_s14_x2901 = true then
((law41_sane).bind fun x38 =>
some x38)
else
some false)
else
some false))))))))))))))

theorem law41_ConnectionSaves_w (a_p0 : Option Addr) (c_p0 : Nat) (p0 : List Int) (p1 : Int) (p2 : Int) (r : Bool) (w : World) (M : List Nat) (hms : MS w [M]) (hs_p0 : SlR (eInt .i64) w (fl [M]) a_p0 c_p0 p0) (h : law41_ConnectionSaves p0 p1 p2 = some r) : CallVC Try.prog 5 [.slice a_p0 (p0).length c_p0, Vi p1, Vi p2] w fun v w' => v = .bool r ∧ Ev [] w w' := by
 refine calls_vc hmx Try.func5 (by kernel_rfl) rfl (rs := [.tmp 6]) rfl (by kernel_rfl) (args := [.slice a_p0 (p0).length c_p0, Vi p1, Vi p2]) rfl ?_
 have hev : Ev [] w w := Ev.refl _ _
 have hfr : FR w.heap.size [] := FR.nil _
 refine c_sp ?_
 refine x_pure 1 [(6, .bool false)] _ _ _ (by kernel_rfl) ?_
 refine x_ek ?_
 refine c_sp ?_
 refine x_pure 1 [(16, .slice a_p0 (p0).length c_p0)] _ _ _ (by kernel_rfl) ?_
 obtain ⟨x2, hx, h⟩ := bind_some h
 have hpk : MS w ([] ++ [M]) := hms.pick [some 0] _ rfl
 have hsb0 : ∀ x ∈ fl ([] ++ [M]), x ∈ fl [M] := pick_sub [some 0] _ rfl
 have hsb : ∀ x ∈ fl ([] ++ [(fl [M])]), x ∈ fl [M] := fun x hx => hsb0 x (fl_unfold x hx)
 have hcall := gen_New_w a_p0 c_p0 p0 _ w (fl [M]) (MS.fold (P := []) hpk) (hs_p0.sub hsb) hx
 refine x_call 7 #[] #[] [.slice a_p0 (p0).length c_p0] _ rfl rfl rfl rfl hcall ?_
 rintro v w3 ⟨b0_3, a1_3, c1_3, rfl, he3, hmn3, hfn3, hf3_1, hf3_2⟩
 clear hcall hx
 refine inl1 ?_
 have hpk2 : MS w ([] ++ [M]) := hms.pick [some 0] _ rfl
 have hsb2 : ∀ x ∈ fl ([] ++ [M]), x ∈ fl [M] := pick_sub [some 0] _ rfl
 have hst0 := Stp.call (LS := [M]) (res := [[b0_3]]) (par := []) (R := [M]) he3 (fun b hb => hsb2 b (fl_left' (P := []) b hb)) hfn3 (NP.init _ _) (fun x hx => hsb2 x (fl_right' (P := []) x hx))
 have hsn : ∀ x ∈ fl [[b0_3], M], x ∈ fl ([[b0_3]] ++ ([] ++ [M])) := pick_sub [some 0, some 1] _ rfl
 have hst := hst0.res hsn
 replace hs_p0 := hs_p0.step hst
 replace hms : MS w3 [[b0_3], M] := (MS.call (P := []) (R := [M]) (res := [[b0_3]]) (par := []) hpk2 he3 hmn3 hfn3 (NP.init _ _)).pick [some 0, some 1] _ rfl
 have hfr2 : FR w.heap.size [[b0_3]] := (FR.cons (fun b hb => Nat.le_trans hev.size (hfn3.at 0 rfl b hb)) (FR.nil _))
 replace hev := hev.ext he3
 replace hfr := hfr2
 clear hfr2
 have hsp : ∀ x ∈ fl [[b0_3], M], x ∈ fl ([[b0_3]] ++ ([] ++ [(fl [M])])) := fun x hx => fl_tot (res := [[b0_3]]) (par := []) (R := [M]) x (hsn x hx)
 replace hf3_2 := hf3_2.sub hsp
 clear hpk hsb hsb0 hpk2 hsb2 hst0 hsn hst
 refine x_pure 1 [(7, Vp b0_3 0)] _ _ _ (by kernel_rfl) ?_
 refine x_ek ?_
 refine c_sp ?_
 refine x_pure 1 [(18, Vp b0_3 0)] _ _ _ (by kernel_rfl) ?_
 obtain ⟨x6, hx, h⟩ := bind_some h
 have hpk : MS w3 ([[b0_3]] ++ [M]) := hms.pick [some 0, some 1] _ rfl
 have hsb0 : ∀ x ∈ fl ([[b0_3]] ++ [M]), x ∈ fl [[b0_3], M] := pick_sub [some 0, some 1] _ rfl
 have hsb : ∀ x ∈ fl ([[b0_3]] ++ [(fl [M])]), x ∈ fl [[b0_3], M] := fun x hx => hsb0 x (fl_unfold x hx)
 have hcall := law41_made_w b0_3 a1_3 c1_3 x2.1 x2.2 _ w3 (fl [M]) (hpk.fold (P := [[b0_3]])) (hf3_2.sub hsb) hf3_1 hx
 refine x_call 8 #[] #[] [Vp b0_3 0] _ rfl rfl rfl rfl hcall ?_
 rintro v w7 ⟨a0_7, c0_7, rfl, he7, hp7_0, hmn7, hfn7, hf7_1⟩
 clear hcall hx
 refine inl1 ?_
 have hpk2 : MS w3 ([[b0_3]] ++ [M]) := hms.pick [some 0, some 1] _ rfl
 have hsb2 : ∀ x ∈ fl ([[b0_3]] ++ [M]), x ∈ fl [[b0_3], M] := pick_sub [some 0, some 1] _ rfl
 have hst0 := Stp.call (LS := [[b0_3], M]) (res := [blk a0_7]) (par := [[b0_3]]) (R := [M]) he7 (fun b hb => hsb2 b (fl_left' (P := [[b0_3]]) b hb)) hfn7 (NP.init _ _) (fun x hx => hsb2 x (fl_right' (P := [[b0_3]]) x hx))
 have hsn : ∀ x ∈ fl [blk a0_7, [b0_3], M], x ∈ fl ([blk a0_7] ++ ([[b0_3]] ++ [M])) := pick_sub [some 0, some 1, some 2] _ rfl
 have hst := hst0.res hsn
 replace hf3_2 := hf3_2.step hst
 replace hms : MS w7 [blk a0_7, [b0_3], M] := (MS.call (P := [[b0_3]]) (R := [M]) (res := [blk a0_7]) (par := [[b0_3]]) hpk2 he7 hmn7 hfn7 (NP.init _ _)).pick [some 0, some 1, some 2] _ rfl
 have hPf : ∀ b ∈ fl [[b0_3]], w.heap.size ≤ b := FR.mem (ls := [[b0_3]]) (hfr.pick [some 0] _ rfl)
 have hfr2 : FR w.heap.size [blk a0_7, [b0_3]] := (FR.cons (fun b hb => Nat.le_trans hev.size (hfn7.at 0 rfl b hb)) (FR.cons (hfr.at 0 rfl) (FR.nil _)))
 replace hev := hev.then he7 (fun b hb => .inr (hPf b hb))
 replace hfr := hfr2
 clear hfr2
 replace hf3_1 := hp7_0
 replace hf7_1 := OwnS.plain (M' := fl [blk a0_7, [b0_3], M]) (plain_int _) hf7_1
 clear hpk hsb hsb0 hpk2 hsb2 hst0 hsn hst
 have hpk : MS w7 [[b0_3], M] := hms.pick [some 1, some 2] _ rfl
 have hsu : ∀ x ∈ fl [[b0_3], M], x ∈ fl [blk a0_7, [b0_3], M] := pick_sub [some 1, some 2] _ rfl
 replace hf3_2 := hf3_2.sub hsu
 replace hf7_1 := hf7_1.ro hsu (pick_out hms 0 rfl [some 1, some 2] [[b0_3], M] rfl rfl)
 replace hms := hpk
 replace hfr : FR w.heap.size [[b0_3]] := hfr.pick [some 1] _ rfl
 clear hpk hsu
 refine x_alloc (z := .agg #[Vi 0, Vi 0, .slice none 0 0, Vi 0, Vi 0]) rfl rfl (by kernel_rfl) (fun b9 w9 hq9 hb9 he9 hz9 => ?_)
 replace hb9 : w9.heap[b9]? = some (.cells #[Vi 0, Vi 0, .slice none 0 0, Vi 0, Vi 0] 24 (0, 0)) := hb9
 refine inl1 ?_
 have hst := Stp.box (ls := [[b0_3], M]) he9 hq9
 replace hf3_1 := he9.box hf3_1 nn
 replace hf3_2 := hf3_2.step hst
 replace hf7_1 := hf7_1.step hst
 replace hms := hms.box he9 hq9 hb9
 replace hfr := hfr.box hev.size hq9
 replace hev := hev.ext he9
 obtain ⟨w11, hr11, hb11, he11⟩ := store_boxagg 0 [Vi x6.1.1, Vi x6.1.2.1, .slice a0_7 (x6.1.2.2.1).length c0_7, Vi x6.1.2.2.2.1, Vi x6.1.2.2.2.2] #[Vi x6.1.1, Vi x6.1.2.1, .slice a0_7 (x6.1.2.2.1).length c0_7, Vi x6.1.2.2.2.1, Vi x6.1.2.2.2.2] tagg24 hb9 rfl rfl rfl
 refine x_store w11 (xv := Vp b9 0) (yv := .agg #[Vi x6.1.1, Vi x6.1.2.1, .slice a0_7 (x6.1.2.2.1).length c0_7, Vi x6.1.2.2.2.1, Vi x6.1.2.2.2.2]) rfl rfl rfl rfl hr11 ?_
 refine inl1 ?_
 have hst := Stp.ev' (ls := [[b9], [b0_3], M]) he11 (mem_flat 0 rfl)
 replace hf3_1 := he11.box hf3_1 (hms.apart 1 0 rfl rfl rfl _ mem1)
 replace hf3_2 := hf3_2.step hst
 replace hf7_1 := hf7_1.step hst
 replace hms := hms.ev he11
 replace hev := hev.then he11 (fun b hb => .inr (hfr.at 0 rfl b hb))
 replace hb9 := hb11
 refine x_ek ?_
 refine c_sp ?_
 refine x_load (xv := Vp b9 0) (.agg #[Vi x6.1.1, Vi x6.1.2.1, .slice a0_7 (x6.1.2.2.1).length c0_7, Vi x6.1.2.2.2.1, Vi x6.1.2.2.2.2]) rfl rfl rfl (reads_boxagg 0 [Vi x6.1.1, Vi x6.1.2.1, .slice a0_7 (x6.1.2.2.1).length c0_7, Vi x6.1.2.2.2.1, Vi x6.1.2.2.2.2] tagg24 hb9 nn rfl) ?_
 obtain ⟨x12, hx, h⟩ := bind_some h
 have hpk : MS w11 ([] ++ [[b9], [b0_3], M]) := hms.pick [some 0, some 1, some 2] _ rfl
 have hsb0 : ∀ x ∈ fl ([] ++ [[b9], [b0_3], M]), x ∈ fl [[b9], [b0_3], M] := pick_sub [some 0, some 1, some 2] _ rfl
 have hsb : ∀ x ∈ fl ([] ++ [(fl [[b9], [b0_3], M])]), x ∈ fl [[b9], [b0_3], M] := fun x hx => hsb0 x (fl_unfold x hx)
 have hcall := connection_Saves_w x6.1.1 x6.1.2.1 a0_7 c0_7 x6.1.2.2.1 x6.1.2.2.2.1 x6.1.2.2.2.2 _ w11 (fl [[b9], [b0_3], M]) (MS.fold (P := []) hpk) (hf7_1.sub hsb) hx
 refine x_call 15 #[] #[] [.agg #[Vi x6.1.1, Vi x6.1.2.1, .slice a0_7 (x6.1.2.2.1).length c0_7, Vi x6.1.2.2.2.1, Vi x6.1.2.2.2.2]] _ rfl rfl rfl rfl hcall ?_
 rintro v w13 ⟨a0_13, c0_13, rfl, he13, hmn13, hfn13, hf13_1⟩
 clear hcall hx
 refine inl1 ?_
 have hpk2 : MS w11 ([] ++ [[b9], [b0_3], M]) := hms.pick [some 0, some 1, some 2] _ rfl
 have hsb2 : ∀ x ∈ fl ([] ++ [[b9], [b0_3], M]), x ∈ fl [[b9], [b0_3], M] := pick_sub [some 0, some 1, some 2] _ rfl
 have hst0 := Stp.call (LS := [[b9], [b0_3], M]) (res := [blk a0_13]) (par := []) (R := [[b9], [b0_3], M]) he13 (fun b hb => hsb2 b (fl_left' (P := []) b hb)) hfn13 (NP.init _ _) (fun x hx => hsb2 x (fl_right' (P := []) x hx))
 have hsn : ∀ x ∈ fl [blk a0_13, [b9], [b0_3], M], x ∈ fl ([blk a0_13] ++ ([] ++ [[b9], [b0_3], M])) := pick_sub [some 0, some 1, some 2, some 3] _ rfl
 have hst := hst0.res hsn
 replace hf3_1 := he13.box hf3_1 ((MS.outs (P := []) hpk2 1 rfl) _ mem1)
 replace hf3_2 := hf3_2.step hst
 replace hf7_1 := hf7_1.step hst
 replace hb9 := he13.box hb9 ((MS.outs (P := []) hpk2 0 rfl) _ mem1)
 replace hms : MS w13 [blk a0_13, [b9], [b0_3], M] := (MS.call (P := []) (R := [[b9], [b0_3], M]) (res := [blk a0_13]) (par := []) hpk2 he13 hmn13 hfn13 (NP.init _ _)).pick [some 0, some 1, some 2, some 3] _ rfl
 have hfr2 : FR w.heap.size [blk a0_13, [b9], [b0_3]] := (FR.cons (fun b hb => Nat.le_trans hev.size (hfn13.at 0 rfl b hb)) (FR.cons (hfr.at 0 rfl) (FR.cons (hfr.at 1 rfl) (FR.nil _))))
 replace hev := hev.ext he13
 replace hfr := hfr2
 clear hfr2
 replace hf13_1 := OwnS.plain (M' := fl [blk a0_13, [b9], [b0_3], M]) (plain_int _) hf13_1
 clear hpk hsb hsb0 hpk2 hsb2 hst0 hsn hst
 have hpk : MS w13 [[b9], [b0_3], M] := hms.pick [some 1, some 2, some 3] _ rfl
 have hsu : ∀ x ∈ fl [[b9], [b0_3], M], x ∈ fl [blk a0_13, [b9], [b0_3], M] := pick_sub [some 1, some 2, some 3] _ rfl
 replace hf3_2 := hf3_2.sub hsu
 replace hf7_1 := hf7_1.sub hsu
 replace hf13_1 := hf13_1.ro hsu (pick_out hms 0 rfl [some 1, some 2, some 3] [[b9], [b0_3], M] rfl rfl)
 replace hms := hpk
 replace hfr : FR w.heap.size [[b9], [b0_3]] := hfr.pick [some 1, some 2] _ rfl
 clear hpk hsu
 refine x_pure 5 [(20, .tuple #[.slice a0_13 (x12.1).length c0_13, Vi x12.2]), (23, .slice a0_13 (x12.1).length c0_13), (24, Vi x12.2), (9, .slice a0_13 (x12.1).length c0_13), (10, Vi x12.2)] _ _ _ (by kernel_rfl) ?_
 refine x_ek ?_
 refine c_norm [(1, Vi p1), (2, Vi p2), (8, Vp b9 0), (9, .slice a0_13 (x12.1).length c0_13), (10, Vi x12.2)] ⟨rfl, rfl, rfl, rfl, rfl, trivial⟩ (fun J => ?_)
 refine c_seq ?_
 refine c_seq ?_
 refine c_drawn [] [(0, false), (1, false), (2, false), (3, false), (4, false), (5, false), (6, false), (7, false), (8, false), (9, false), (10, false), (11, false), (12, false), (13, false), (14, false), (15, false), (16, false), (17, false), (18, false), (19, false), (20, false), (21, false), (22, false), (23, false), (24, false), (25, false)] _ (by kernel_rfl) rfl ?_
 have hst := Stp.ext (ls := [[b9], [b0_3], M]) (Ev.drew w13)
 replace hf3_1 := (Ev.drew w13).box hf3_1 nn
 replace hf3_2 := hf3_2.step hst
 replace hf7_1 := hf7_1.step hst
 replace hb9 := (Ev.drew w13).box hb9 nn
 replace hf13_1 := hf13_1.step hst
 replace hms := hms.ev (Ev.drew w13)
 replace hev := hev.ext (Ev.drew w13)
 refine x_pure 3 [(25, Vi x12.2), (26, .bool (x12.2 != 0)), (27, .bool (x12.2 != 0))] _ _ _ (by kernel_rfl) ?_
 refine x_split 27 (x12.2 != 0) rfl (fun hb => ?_) (fun hb => ?_)
 · replace h := ite_t hb h
   refine x_pure 23 [(28, undef), (29, undef), (30, undef), (31, .bool true), (32, .bool true), (33, undef), (34, undef), (35, undef), (36, undef), (37, undef), (38, undef), (39, .bool true), (40, .bool true), (41, undef), (42, undef), (43, undef), (44, undef), (45, undef), (46, undef), (47, undef), (48, undef), (49, undef), (50, .bool true)] _ _ _ (by kernel_rfl) ?_
   refine x_ek ?_
   refine c_norm [(1, Vi p1), (2, Vi p2), (8, Vp b9 0), (9, .slice a0_13 (x12.1).length c0_13), (50, .bool true)] ⟨rfl, rfl, rfl, rfl, rfl, trivial⟩ (fun J => ?_)
   refine c_true rfl ?_
   refine c_sp ?_
   refine x_pure 1 [(6, .bool false)] _ _ _ (by kernel_rfl) ?_
   refine x_ek ?_
   refine c_ret ?_
   refine k_then_ret ?_
   refine r_ret (r_vals [.bool false] ⟨rfl, trivial⟩ ?_)
   have hx := some_inj h
   subst hx
   have hmr : MS (w13).drew [M] := hms.pick [some 2] _ rfl
   have hsu : ∀ x ∈ fl [M], x ∈ fl [[b9], [b0_3], M] := pick_sub [some 2] _ rfl
   exact ⟨rfl, hev⟩
 replace h := ite_f hb h
 refine x_pure 1 [(28, .slice a0_13 (x12.1).length c0_13)] _ _ _ (by kernel_rfl) ?_
 refine x_len (vs := [.slice a0_13 (x12.1).length c0_13]) (Vi ((x12.1).length : Int)) rfl rfl rfl (reads_len tsl22 _ _ _ _ _) ?_
 refine x_pure 3 [(30, .bool (((x12.1).length : Int) == 0)), (31, .bool (((x12.1).length : Int) == 0)), (32, .bool (((x12.1).length : Int) == 0))] _ _ _ (by kernel_rfl) ?_
 refine x_split 32 (((x12.1).length : Int) == 0) rfl (fun hb => ?_) (fun hb => ?_)
 · replace h := ite_t hb h
   refine x_pure 18 [(33, undef), (34, undef), (35, undef), (36, undef), (37, undef), (38, undef), (39, .bool true), (40, .bool true), (41, undef), (42, undef), (43, undef), (44, undef), (45, undef), (46, undef), (47, undef), (48, undef), (49, undef), (50, .bool true)] _ _ _ (by kernel_rfl) ?_
   refine x_ek ?_
   refine c_norm [(1, Vi p1), (2, Vi p2), (8, Vp b9 0), (9, .slice a0_13 (x12.1).length c0_13), (50, .bool true)] ⟨rfl, rfl, rfl, rfl, rfl, trivial⟩ (fun J => ?_)
   refine c_true rfl ?_
   refine c_sp ?_
   refine x_pure 1 [(6, .bool false)] _ _ _ (by kernel_rfl) ?_
   refine x_ek ?_
   refine c_ret ?_
   refine k_then_ret ?_
   refine r_ret (r_vals [.bool false] ⟨rfl, trivial⟩ ?_)
   have hx := some_inj h
   subst hx
   have hmr : MS (w13).drew [M] := hms.pick [some 2] _ rfl
   have hsu : ∀ x ∈ fl [M], x ∈ fl [[b9], [b0_3], M] := pick_sub [some 2] _ rfl
   exact ⟨rfl, hev⟩
 replace h := ite_f hb h
 refine x_pure 1 [(33, .slice a0_13 (x12.1).length c0_13)] _ _ _ (by kernel_rfl) ?_
 obtain ⟨x16, hx16, h⟩ := bind_some h
 obtain ⟨ad16, cs16, hr16, hc16, hR⟩ := reads_index (Mo := []) tsl22 hf13_1 hx16
 obtain rfl := hR
 refine x_indexAddr (xv := .slice a0_13 (x12.1).length c0_13) (yv := Vi 0) (.pointer (some ad16)) rfl rfl rfl rfl hr16 ?_
 refine x_load (xv := .pointer (some ad16)) (Vi x16) rfl rfl rfl (reads_cell0 tcell3 hc16 (fun _ h => by cases h)) ?_
 refine x_fieldAddr (xv := Vp b9 0) (Vp b9 0) rfl rfl rfl (reads_field tfld24_0 _ _) ?_
 refine x_load (xv := Vp b9 0) (Vi x6.1.1) rfl rfl rfl (reads_box tcell3 hb9 nn 0 _ rfl) ?_
 refine x_pure 3 [(38, .bool (x16 != x6.1.1)), (39, .bool (x16 != x6.1.1)), (40, .bool (x16 != x6.1.1))] _ _ _ (by kernel_rfl) ?_
 refine x_split 40 (x16 != x6.1.1) rfl (fun hb => ?_) (fun hb => ?_)
 · replace h := ite_t hb h
   refine x_pure 10 [(41, undef), (42, undef), (43, undef), (44, undef), (45, undef), (46, undef), (47, undef), (48, undef), (49, undef), (50, .bool true)] _ _ _ (by kernel_rfl) ?_
   refine x_ek ?_
   refine c_norm [(1, Vi p1), (2, Vi p2), (8, Vp b9 0), (9, .slice a0_13 (x12.1).length c0_13), (50, .bool true)] ⟨rfl, rfl, rfl, rfl, rfl, trivial⟩ (fun J => ?_)
   refine c_true rfl ?_
   refine c_sp ?_
   refine x_pure 1 [(6, .bool false)] _ _ _ (by kernel_rfl) ?_
   refine x_ek ?_
   refine c_ret ?_
   refine k_then_ret ?_
   refine r_ret (r_vals [.bool false] ⟨rfl, trivial⟩ ?_)
   have hx := some_inj h
   subst hx
   have hmr : MS (w13).drew [M] := hms.pick [some 2] _ rfl
   have hsu : ∀ x ∈ fl [M], x ∈ fl [[b9], [b0_3], M] := pick_sub [some 2] _ rfl
   exact ⟨rfl, hev⟩
 replace h := ite_f hb h
 refine x_pure 2 [(41, .slice a0_13 (x12.1).length c0_13), (42, .slice a0_13 (x12.1).length c0_13)] _ _ _ (by kernel_rfl) ?_
 refine x_len (vs := [.slice a0_13 (x12.1).length c0_13]) (Vi ((x12.1).length : Int)) rfl rfl rfl (reads_len tsl22 _ _ _ _ _) ?_
 refine x_pure 1 [(44, Vi (IntKind.i64.wrap (((x12.1).length : Int) - 1)))] _ _ _ (by kernel_rfl) ?_
 obtain ⟨x18, hx18, h⟩ := bind_some h
 obtain ⟨ad18, cs18, hr18, hc18, hR⟩ := reads_index (Mo := []) tsl22 hf13_1 hx18
 obtain rfl := hR
 refine x_indexAddr (xv := .slice a0_13 (x12.1).length c0_13) (yv := Vi (IntKind.i64.wrap (((x12.1).length : Int) - 1))) (.pointer (some ad18)) rfl rfl rfl rfl hr18 ?_
 refine x_load (xv := .pointer (some ad18)) (Vi x18) rfl rfl rfl (reads_cell0 tcell3 hc18 (fun _ h => by cases h)) ?_
 refine x_fieldAddr (xv := Vp b9 0) (Vp b9 1) rfl rfl rfl (reads_field tfld24_1 _ _) ?_
 refine x_load (xv := Vp b9 1) (Vi x6.1.2.1) rfl rfl rfl (reads_box tcell3 hb9 nn 1 _ rfl) ?_
 refine x_pure 2 [(49, .bool (decide (x18 > x6.1.2.1))), (50, .bool (decide (x18 > x6.1.2.1)))] _ _ _ (by kernel_rfl) ?_
 refine x_ek ?_
 refine c_norm [(1, Vi p1), (2, Vi p2), (8, Vp b9 0), (9, .slice a0_13 (x12.1).length c0_13), (50, .bool (decide (x18 > x6.1.2.1)))] ⟨rfl, rfl, rfl, rfl, rfl, trivial⟩ (fun J => ?_)
 refine c_cond (decide (x18 > x6.1.2.1)) rfl (fun hb => ?_) (fun hb => ?_)
 · replace h := ite_t hb h
   refine c_sp ?_
   refine x_pure 1 [(6, .bool false)] _ _ _ (by kernel_rfl) ?_
   refine x_ek ?_
   refine c_ret ?_
   refine k_then_ret ?_
   refine r_ret (r_vals [.bool false] ⟨rfl, trivial⟩ ?_)
   have hx := some_inj h
   subst hx
   have hmr : MS (w13).drew [M] := hms.pick [some 2] _ rfl
   have hsu : ∀ x ∈ fl [M], x ∈ fl [[b9], [b0_3], M] := pick_sub [some 2] _ rfl
   exact ⟨rfl, hev⟩
 replace h := ite_f hb h
 refine c_skip ?_
 refine k_then ?_
 refine c_sp ?_
 refine x_pure 1 [(51, Vi p1)] _ _ _ (by kernel_rfl) ?_
 obtain ⟨x20, hx, h⟩ := bind_some h
 have hcall := yardgen_Place_w p1 1000001 _ (w13).drew hx
 refine x_call 16 #[] #[] [Vi p1, Vi 1000001] _ rfl rfl rfl rfl hcall ?_
 rintro v w21 ⟨rfl, he21⟩
 clear hcall hx
 refine inl1 ?_
 have hst := Stp.ext (ls := [[b9], [b0_3], M]) he21
 replace hf3_1 := he21.box hf3_1 nn
 replace hf3_2 := hf3_2.step hst
 replace hf7_1 := hf7_1.step hst
 replace hb9 := he21.box hb9 nn
 replace hf13_1 := hf13_1.step hst
 replace hms := hms.ev he21
 replace hev := hev.ext he21
 refine x_pure 1 [(53, Vi p2)] _ _ _ (by kernel_rfl) ?_
 obtain ⟨x22, hx, h⟩ := bind_some h
 have hcall := yardgen_Place_w p2 1000001 _ w21 hx
 refine x_call 16 #[] #[] [Vi p2, Vi 1000001] _ rfl rfl rfl rfl hcall ?_
 rintro v w23 ⟨rfl, he23⟩
 clear hcall hx
 refine inl1 ?_
 have hst := Stp.ext (ls := [[b9], [b0_3], M]) he23
 replace hf3_1 := he23.box hf3_1 nn
 replace hf3_2 := hf3_2.step hst
 replace hf7_1 := hf7_1.step hst
 replace hb9 := he23.box hb9 nn
 replace hf13_1 := hf13_1.step hst
 replace hms := hms.ev he23
 replace hev := hev.ext he23
 refine x_fieldAddr (xv := Vp b9 0) (Vp b9 3) rfl rfl rfl (reads_field tfld24_3 _ _) ?_
 obtain ⟨w24, hr24, hb24, he24⟩ := store_box 3 (Vi x20) #[Vi x6.1.1, Vi x6.1.2.1, .slice a0_7 (x6.1.2.2.1).length c0_7, Vi x20, Vi x6.1.2.2.2.2] tcell3 hb9 rfl rfl rfl
 refine x_store w24 (xv := Vp b9 3) (yv := Vi x20) rfl rfl rfl rfl hr24 ?_
 refine inl1 ?_
 have hst := Stp.ev' (ls := [[b9], [b0_3], M]) he24 (mem_flat 0 rfl)
 replace hf3_1 := he24.box hf3_1 (hms.apart 1 0 rfl rfl rfl _ mem1)
 replace hf3_2 := hf3_2.step hst
 replace hf7_1 := hf7_1.step hst
 replace hf13_1 := hf13_1.step hst
 replace hms := hms.ev he24
 replace hev := hev.then he24 (fun b hb => .inr (hfr.at 0 rfl b hb))
 replace hb9 := hb24
 refine x_fieldAddr (xv := Vp b9 0) (Vp b9 4) rfl rfl rfl (reads_field tfld24_4 _ _) ?_
 obtain ⟨w25, hr25, hb25, he25⟩ := store_box 4 (Vi x22) #[Vi x6.1.1, Vi x6.1.2.1, .slice a0_7 (x6.1.2.2.1).length c0_7, Vi x20, Vi x22] tcell3 hb9 rfl rfl rfl
 refine x_store w25 (xv := Vp b9 4) (yv := Vi x22) rfl rfl rfl rfl hr25 ?_
 refine inl1 ?_
 have hst := Stp.ev' (ls := [[b9], [b0_3], M]) he25 (mem_flat 0 rfl)
 replace hf3_1 := he25.box hf3_1 (hms.apart 1 0 rfl rfl rfl _ mem1)
 replace hf3_2 := hf3_2.step hst
 replace hf7_1 := hf7_1.step hst
 replace hf13_1 := hf13_1.step hst
 replace hms := hms.ev he25
 replace hev := hev.then he25 (fun b hb => .inr (hfr.at 0 rfl b hb))
 replace hb9 := hb25
 refine x_ek ?_
 refine c_sp ?_
 refine x_load (xv := Vp b9 0) (.agg #[Vi x6.1.1, Vi x6.1.2.1, .slice a0_7 (x6.1.2.2.1).length c0_7, Vi x20, Vi x22]) rfl rfl rfl (reads_boxagg 0 [Vi x6.1.1, Vi x6.1.2.1, .slice a0_7 (x6.1.2.2.1).length c0_7, Vi x20, Vi x22] tagg24 hb9 nn rfl) ?_
 obtain ⟨x26, hx, h⟩ := bind_some h
 have hpk : MS w25 ([] ++ [[b9], [b0_3], M]) := hms.pick [some 0, some 1, some 2] _ rfl
 have hsb0 : ∀ x ∈ fl ([] ++ [[b9], [b0_3], M]), x ∈ fl [[b9], [b0_3], M] := pick_sub [some 0, some 1, some 2] _ rfl
 have hsb : ∀ x ∈ fl ([] ++ [(fl [[b9], [b0_3], M])]), x ∈ fl [[b9], [b0_3], M] := fun x hx => hsb0 x (fl_unfold x hx)
 have hcall := connection_Best_w x6.1.1 x6.1.2.1 a0_7 c0_7 x6.1.2.2.1 x20 x22 _ w25 (fl [[b9], [b0_3], M]) (MS.fold (P := []) hpk) (hf7_1.sub hsb) hx
 refine x_call 13 #[] #[] [.agg #[Vi x6.1.1, Vi x6.1.2.1, .slice a0_7 (x6.1.2.2.1).length c0_7, Vi x20, Vi x22]] _ rfl rfl rfl rfl hcall ?_
 rintro v w27 ⟨rfl, he27⟩
 clear hcall hx
 refine inl1 ?_
 have hst := Stp.ext (ls := [[b9], [b0_3], M]) he27
 replace hf3_1 := he27.box hf3_1 nn
 replace hf3_2 := hf3_2.step hst
 replace hf7_1 := hf7_1.step hst
 replace hb9 := he27.box hb9 nn
 replace hf13_1 := hf13_1.step hst
 replace hms := hms.ev he27
 replace hev := hev.ext he27
 clear hpk hsb hsb0
 refine x_pure 7 [(57, .tuple #[Vi x26.1, Vi x26.2.1, Vi x26.2.2]), (60, Vi x26.1), (61, Vi x26.2.1), (62, Vi x26.2.2), (11, Vi x26.1), (12, Vi x26.2.1), (13, Vi x26.2.2)] _ _ _ (by kernel_rfl) ?_
 refine x_ek ?_
 refine c_norm [(9, .slice a0_13 (x12.1).length c0_13), (11, Vi x26.1), (13, Vi x26.2.2)] ⟨rfl, rfl, rfl, trivial⟩ (fun J => ?_)
 refine c_sp ?_
 refine x_pure 1 [(14, .bool false)] _ _ _ (by kernel_rfl) ?_
 refine x_ek ?_
 refine c_seq ?_
 refine c_sp ?_
 refine x_pure 1 [(15, Vi 0)] _ _ _ (by kernel_rfl) ?_
 refine x_ek ?_
 refine c_block ?_
 have hpk : MS w27 [M] := hms.pick [some 2] _ rfl
 have hsu : ∀ x ∈ fl [M], x ∈ fl [[b9], [b0_3], M] := pick_sub [some 2] _ rfl
 replace hf13_1 := hf13_1.sub hsu
 replace hms := hpk
 replace hfr : FR w.heap.size [] := hfr.pick [] _ rfl
 clear hpk hsu
 obtain ⟨d29, hd29, h29⟩ := bind_some h
 obtain ⟨m29, hd29⟩ := loop_some hd29
 refine c_loop (loop_rule hmx (σ := Nat × Bool × Int) (fun s => match s with | (_, found_s14_l29, i_s15_l29) => [(9, .slice a0_13 (x12.1).length c0_13), (11, Vi x26.1), (13, Vi x26.2.2), (14, .bool found_s14_l29), (15, Vi i_s15_l29)]) (fun s w' => match s with | (m, found_s14_l29, i_s15_l29) => loopN (law41_ConnectionSaves_L29 x12 x26) m (found_s14_l29, i_s15_l29) = some d29 ∧ Ev [] w w' ∧ MS w' [M] ∧ FR w.heap.size [] ∧ SlR (eInt .i64) w' (fl [M]) a0_13 c0_13 x12.1) (fun s => s.1) (m29, false, 0) ⟨rfl, rfl, rfl, rfl, rfl, trivial⟩ ⟨hd29, hev, hms, hfr, hf13_1⟩ ?_)
 rintro ⟨m29, found_s14_l29, i_s15_l29⟩ J wl29 ⟨hn29, hev, hms, hfr, hf13_1⟩
 rcases m29 with _ | m29
 · exact (loopN_zero hn29).elim
 obtain ⟨t29, h, hn29⟩ := bind_some hn29
 refine c_seq ?_
 refine c_sp ?_
 refine x_pure 2 [(63, Vi i_s15_l29), (64, .slice a0_13 (x12.1).length c0_13)] _ _ _ (by kernel_rfl) ?_
 refine x_len (vs := [.slice a0_13 (x12.1).length c0_13]) (Vi ((x12.1).length : Int)) rfl rfl rfl (reads_len tsl22 _ _ _ _ _) ?_
 refine x_pure 1 [(66, .bool (decide (i_s15_l29 < ((x12.1).length : Int))))] _ _ _ (by kernel_rfl) ?_
 refine x_ek ?_
 refine c_norm [(9, .slice a0_13 (x12.1).length c0_13), (11, Vi x26.1), (13, Vi x26.2.2), (14, .bool found_s14_l29), (15, Vi i_s15_l29), (66, .bool (decide (i_s15_l29 < ((x12.1).length : Int))))] ⟨rfl, rfl, rfl, rfl, rfl, rfl, trivial⟩ (fun J => ?_)
 refine c_cond (decide (i_s15_l29 < ((x12.1).length : Int))) rfl (fun hb => ?_) (fun hb => ?_)
 · replace h := ite_t hb h
   refine c_skip ?_
   refine k_then ?_
   refine c_seq ?_
   refine c_block ?_
   refine c_join (σ := Bool) (fun s => match s with | found_s14_j31 => [(9, .slice a0_13 (x12.1).length c0_13), (11, Vi x26.1), (13, Vi x26.2.2), (14, .bool found_s14_j31), (15, Vi i_s15_l29)]) (fun s w' => match s with | found_s14_j31 => law41_ConnectionSaves_J31 x12 i_s15_l29 found_s14_j31 = some t29 ∧ Ev [] w w' ∧ MS w' [M] ∧ FR w.heap.size [] ∧ SlR (eInt .i64) w' (fl [M]) a0_13 c0_13 x12.1) ?_ ?_
   · refine c_plain ?_
     refine x_pure 2 [(69, .bool found_s14_l29), (70, .bool found_s14_l29)] _ _ _ (by kernel_rfl) ?_
     refine x_split 70 found_s14_l29 rfl (fun hb => ?_) (fun hb => ?_)
     · replace h := ite_t hb h
       refine x_pure 8 [(71, undef), (72, undef), (73, undef), (74, undef), (75, undef), (76, undef), (77, .bool true), (14, .bool true)] _ _ _ (by kernel_rfl) ?_
       refine x_end rfl ?_
       exact k_then ⟨true, ⟨rfl, rfl, rfl, rfl, rfl, trivial⟩, h, hev, hms, hfr, hf13_1⟩
     replace h := ite_f hb h
     refine x_pure 2 [(71, .slice a0_13 (x12.1).length c0_13), (72, Vi i_s15_l29)] _ _ _ (by kernel_rfl) ?_
     obtain ⟨x32, hx32, h⟩ := bind_some h
     obtain ⟨ad32, cs32, hr32, hc32, hR⟩ := reads_index (Mo := []) tsl22 hf13_1 hx32
     obtain rfl := hR
     refine x_indexAddr (xv := .slice a0_13 (x12.1).length c0_13) (yv := Vi i_s15_l29) (.pointer (some ad32)) rfl rfl rfl rfl hr32 ?_
     refine x_load (xv := .pointer (some ad32)) (Vi x32) rfl rfl rfl (reads_cell0 tcell3 hc32 (fun _ h => by cases h)) ?_
     refine x_pure 4 [(75, Vi x26.1), (76, .bool (x32 == x26.1)), (77, .bool (x32 == x26.1)), (14, .bool (x32 == x26.1))] _ _ _ (by kernel_rfl) ?_
     refine x_end rfl ?_
     exact k_then ⟨x32 == x26.1, ⟨rfl, rfl, rfl, rfl, rfl, trivial⟩, h, hev, hms, hfr, hf13_1⟩
   rintro found_s14_j31 J wj31 ⟨h, hev, hms, hfr, hf13_1⟩
   refine c_seq ?_
   refine c_drawn [] [(0, false), (1, false), (2, false), (3, false), (4, false), (5, false), (6, false), (7, false), (8, false), (9, false), (10, false), (11, false), (12, false), (13, false)] _ (by kernel_rfl) rfl ?_
   have hst := Stp.ext (ls := [M]) (Ev.drew wj31)
   replace hf13_1 := hf13_1.step hst
   replace hms := hms.ev (Ev.drew wj31)
   replace hev := hev.ext (Ev.drew wj31)
   refine x_pure 3 [(78, Vi i_s15_l29), (79, .bool (decide (i_s15_l29 > 0))), (80, .bool (decide (i_s15_l29 > 0)))] _ _ _ (by kernel_rfl) ?_
   refine x_split 80 (decide (i_s15_l29 > 0)) rfl (fun hb => ?_) (fun hb => ?_)
   · replace h := ite_t hb h
     refine x_pure 2 [(81, .slice a0_13 (x12.1).length c0_13), (82, Vi i_s15_l29)] _ _ _ (by kernel_rfl) ?_
     obtain ⟨x34, hx34, h⟩ := bind_some h
     obtain ⟨ad34, cs34, hr34, hc34, hR⟩ := reads_index (Mo := []) tsl22 hf13_1 hx34
     obtain rfl := hR
     refine x_indexAddr (xv := .slice a0_13 (x12.1).length c0_13) (yv := Vi i_s15_l29) (.pointer (some ad34)) rfl rfl rfl rfl hr34 ?_
     refine x_load (xv := .pointer (some ad34)) (Vi x34) rfl rfl rfl (reads_cell0 tcell3 hc34 (fun _ h => by cases h)) ?_
     refine x_pure 3 [(85, .slice a0_13 (x12.1).length c0_13), (86, Vi i_s15_l29), (87, Vi (IntKind.i64.wrap (i_s15_l29 - 1)))] _ _ _ (by kernel_rfl) ?_
     obtain ⟨x36, hx36, h⟩ := bind_some h
     obtain ⟨ad36, cs36, hr36, hc36, hR⟩ := reads_index (Mo := []) tsl22 hf13_1 hx36
     obtain rfl := hR
     refine x_indexAddr (xv := .slice a0_13 (x12.1).length c0_13) (yv := Vi (IntKind.i64.wrap (i_s15_l29 - 1))) (.pointer (some ad36)) rfl rfl rfl rfl hr36 ?_
     refine x_load (xv := .pointer (some ad36)) (Vi x36) rfl rfl rfl (reads_cell0 tcell3 hc36 (fun _ h => by cases h)) ?_
     refine x_pure 2 [(90, .bool (decide (x34 ≤ x36))), (91, .bool (decide (x34 ≤ x36)))] _ _ _ (by kernel_rfl) ?_
     refine x_ek ?_
     refine c_norm [(9, .slice a0_13 (x12.1).length c0_13), (11, Vi x26.1), (13, Vi x26.2.2), (14, .bool found_s14_j31), (15, Vi i_s15_l29), (91, .bool (decide (x34 ≤ x36)))] ⟨rfl, rfl, rfl, rfl, rfl, rfl, trivial⟩ (fun J => ?_)
     refine c_cond (decide (x34 ≤ x36)) rfl (fun hb => ?_) (fun hb => ?_)
     · replace h := ite_t hb h
       refine c_sp ?_
       refine x_pure 1 [(6, .bool false)] _ _ _ (by kernel_rfl) ?_
       refine x_ek ?_
       refine c_ret ?_
       refine k_block_ret ?_
       refine k_then_ret ?_
       have hx := some_inj h
       subst hx
       have hy := some_inj hn29
       subst hy
       replace h := h29
       refine k_then_ret ?_
       refine k_block_ret ?_
       refine k_then_ret ?_
       refine r_ret (r_vals [.bool false] ⟨rfl, trivial⟩ ?_)
       have hx := some_inj h
       subst hx
       have hmr : MS (wj31).drew [M] := hms.pick [some 0] _ rfl
       have hsu : ∀ x ∈ fl [M], x ∈ fl [M] := pick_sub [some 0] _ rfl
       exact ⟨rfl, hev⟩
     replace h := ite_f hb h
     refine c_skip ?_
     refine k_block ?_
     refine k_then ?_
     refine c_plain ?_
     refine x_pure 3 [(67, Vi i_s15_l29), (68, Vi (IntKind.i64.wrap (i_s15_l29 + 1))), (15, Vi (IntKind.i64.wrap (i_s15_l29 + 1)))] _ _ _ (by kernel_rfl) ?_
     refine x_end rfl ?_
     have hx := some_inj h
     subst hx
     exact k_then ⟨(m29, found_s14_j31, IntKind.i64.wrap (i_s15_l29 + 1)), ⟨rfl, rfl, rfl, rfl, rfl, trivial⟩, ⟨hn29, hev, hms, hfr, hf13_1⟩, Nat.lt_succ_self _⟩
   replace h := ite_f hb h
   refine x_pure 11 [(81, undef), (82, undef), (83, undef), (84, undef), (85, undef), (86, undef), (87, undef), (88, undef), (89, undef), (90, undef), (91, .bool false)] _ _ _ (by kernel_rfl) ?_
   refine x_ek ?_
   refine c_norm [(9, .slice a0_13 (x12.1).length c0_13), (11, Vi x26.1), (13, Vi x26.2.2), (14, .bool found_s14_j31), (15, Vi i_s15_l29), (91, .bool false)] ⟨rfl, rfl, rfl, rfl, rfl, rfl, trivial⟩ (fun J => ?_)
   refine c_false rfl ?_
   refine c_skip ?_
   refine k_block ?_
   refine k_then ?_
   refine c_plain ?_
   refine x_pure 3 [(67, Vi i_s15_l29), (68, Vi (IntKind.i64.wrap (i_s15_l29 + 1))), (15, Vi (IntKind.i64.wrap (i_s15_l29 + 1)))] _ _ _ (by kernel_rfl) ?_
   refine x_end rfl ?_
   have hx := some_inj h
   subst hx
   exact k_then ⟨(m29, found_s14_j31, IntKind.i64.wrap (i_s15_l29 + 1)), ⟨rfl, rfl, rfl, rfl, rfl, trivial⟩, ⟨hn29, hev, hms, hfr, hf13_1⟩, Nat.lt_succ_self _⟩
 replace h := ite_f hb h
 refine c_exit ?_
 refine k_then_exit ?_
 have hx := some_inj h
 subst hx
 have hy := some_inj hn29
 subst hy
 replace h := h29
 refine k_then_exit ?_
 refine k_block_in ?_
 refine k_then ?_
 refine c_norm [(13, Vi x26.2.2), (14, .bool found_s14_l29)] ⟨rfl, rfl, trivial⟩ (fun J => ?_)
 refine c_sp ?_
 refine x_pure 3 [(92, Vi x26.2.2), (93, .bool (x26.2.2 == 0)), (94, .bool (x26.2.2 == 0))] _ _ _ (by kernel_rfl) ?_
 refine x_split 94 (x26.2.2 == 0) rfl (fun hb => ?_) (fun hb => ?_)
 · replace h := ite_t hb h
   refine x_pure 3 [(95, .bool found_s14_l29), (96, .bool found_s14_l29), (97, .bool found_s14_l29)] _ _ _ (by kernel_rfl) ?_
   refine x_split 97 found_s14_l29 rfl (fun hb => ?_) (fun hb => ?_)
   · replace h := ite_t hb h
     obtain ⟨x38, hx, h⟩ := bind_some h
     have hcall := law41_sane_w _ wl29 hx
     refine x_call 12 #[] #[] [] _ rfl rfl rfl rfl hcall ?_
     rintro v w39 ⟨rfl, he39⟩
     clear hcall hx
     refine inl1 ?_
     replace hms := hms.ev he39
     replace hev := hev.ext he39
     refine x_pure 2 [(99, .bool x38), (6, .bool x38)] _ _ _ (by kernel_rfl) ?_
     refine x_ek ?_
     refine c_ret ?_
     refine r_ret (r_vals [.bool x38] ⟨rfl, trivial⟩ ?_)
     have hx := some_inj h
     subst hx
     have hmr : MS w39 [M] := hms.pick [some 0] _ rfl
     have hsu : ∀ x ∈ fl [M], x ∈ fl [M] := pick_sub [some 0] _ rfl
     exact ⟨rfl, hev⟩
   replace h := ite_f hb h
   refine x_pure 3 [(98, undef), (99, .bool false), (6, .bool false)] _ _ _ (by kernel_rfl) ?_
   refine x_ek ?_
   refine c_ret ?_
   refine r_ret (r_vals [.bool false] ⟨rfl, trivial⟩ ?_)
   have hx := some_inj h
   subst hx
   have hmr : MS wl29 [M] := hms.pick [some 0] _ rfl
   have hsu : ∀ x ∈ fl [M], x ∈ fl [M] := pick_sub [some 0] _ rfl
   exact ⟨rfl, hev⟩
 replace h := ite_f hb h
 refine x_pure 6 [(95, undef), (96, .bool false), (97, .bool false), (98, undef), (99, .bool false), (6, .bool false)] _ _ _ (by kernel_rfl) ?_
 refine x_ek ?_
 refine c_ret ?_
 refine r_ret (r_vals [.bool false] ⟨rfl, trivial⟩ ?_)
 have hx := some_inj h
 subst hx
 have hmr : MS wl29 [M] := hms.pick [some 0] _ rfl
 have hsu : ∀ x ∈ fl [M], x ∈ fl [M] := pick_sub [some 0] _ rfl
 exact ⟨rfl, hev⟩
end Go.Proofs.Ytdjadgodphfihaa
