/- Walks, printed by program: each function returns what the partial function of the same name returns. Conditions: those of each theorem. -/
import Derived.Test.YtdjadgodphfihaaGT
import Derived.Test.YtdjadgodphfihaaGconnection
import Derived.Test.YtdjadgodphfihaaGgen
import Derived.Test.YtdjadgodphfihaaGlaw41made
import Derived.Test.YtdjadgodphfihaaGlaw41sane
import Derived.Test.YtdjadgodphfihaaGyardgen
set_option linter.unusedVariables false
set_option linter.unusedSimpArgs false
set_option maxRecDepth 4000
namespace Go.Proofs.Ytdjadgodphfihaa
open Go Go.V Go.Proofs
def law41_ConnectionWaits_L25 (x6 : (Int × Int × (List Int) × Int × Int) × Int) (a_s1_j16 : Int) (x17 : (List Int) × Int) (s : Int × Int) : Option (Step (Int × Int) (Unit ⊕ Int)) :=
match s with
| (n_s13_l25, i_s14_l25) =>
(if (decide (i_s14_l25 < ((x6.1.2.2.1).length : Int))) = true then
((idx x6.1.2.2.1 i_s14_l25).bind fun x27 =>
(if (decide (x27 > a_s1_j16)) = true then
(if (decide (n_s13_l25 ≥ ((x17.1).length : Int))) = true then
some (.done (.inl ()))
else
((idx x17.1 n_s13_l25).bind fun x29 =>
(if (x29 != i_s14_l25) = true then
some (.done (.inl ()))
else
some (.next (IntKind.i64.wrap (n_s13_l25 + 1), IntKind.i64.wrap (i_s14_l25 + 1))))))
else
some (.next (n_s13_l25, IntKind.i64.wrap (i_s14_l25 + 1)))))
else
some (.done (.inr n_s13_l25)))

def law41_ConnectionWaits_J16 (x6 : (Int × Int × (List Int) × Int × Int) × Int) (a_s1_j16 : Int) (b_s2_j16 : Int) : Option Bool :=
((connection_Left x6.1.1 x6.1.2.1 x6.1.2.2.1 x6.1.2.2.2.1 x6.1.2.2.2.2 a_s1_j16).bind fun x17 =>
((connection_Left x6.1.1 x6.1.2.1 x6.1.2.2.1 x6.1.2.2.2.1 x6.1.2.2.2.2 b_s2_j16).bind fun x20 =>
(if (x17.2 != 0) = true then
some false
else
(if (x20.2 != 0) = true then
some false
else
(if (decide (((x20.1).length : Int) > ((x17.1).length : Int))) = true then
some false
else
((loop (law41_ConnectionWaits_L25 x6 a_s1_j16 x17) (0, 0)).bind fun d => match d with
| (.inl _) => some false
| (.inr n_s13_x2501) => (if (n_s13_x2501 == ((x17.1).length : Int)) = true then
((law41_sane).bind fun x31 =>
some x31)
else
some false)))))))

def law41_ConnectionWaits (p0 : List Int) (p1 : Int) (p2 : Int) : Option Bool :=
((gen_New p0).bind fun x2 =>
((law41_made x2.1 x2.2).bind fun x6 =>
((yardgen_Place p1 (IntKind.i64.wrap ((IntKind.i64.wrap (x6.1.2.1 - x6.1.1)) + 1))).bind fun x12 =>
((yardgen_Place p2 (IntKind.i64.wrap ((IntKind.i64.wrap (x6.1.2.1 - x6.1.1)) + 1))).bind fun x14 =>
(if (decide ((IntKind.i64.wrap (x6.1.1 + x12)) > (IntKind.i64.wrap (x6.1.1 + x14)))) = true then
law41_ConnectionWaits_J16 x6 (IntKind.i64.wrap (x6.1.1 + x14)) (IntKind.i64.wrap (x6.1.1 + x12))
else
law41_ConnectionWaits_J16 x6 (IntKind.i64.wrap (x6.1.1 + x12)) (IntKind.i64.wrap (x6.1.1 + x14)))))))

theorem law41_ConnectionWaits_w (a_p0 : Option Addr) (c_p0 : Nat) (p0 : List Int) (p1 : Int) (p2 : Int) (r : Bool) (w : World) (M : List Nat) (hms : MS w [M]) (hs_p0 : SlR (eInt .i64) w (fl [M]) a_p0 c_p0 p0) (h : law41_ConnectionWaits p0 p1 p2 = some r) : CallVC Try.prog 6 [.slice a_p0 (p0).length c_p0, Vi p1, Vi p2] w fun v w' => v = .bool r ∧ Ev [] w w' := by
 refine calls_vc hmx Try.func6 (by kernel_rfl) rfl (rs := [.tmp 6]) rfl (by kernel_rfl) (args := [.slice a_p0 (p0).length c_p0, Vi p1, Vi p2]) rfl ?_
 have hev : Ev [] w w := Ev.refl _ _
 have hfr : FR w.heap.size [] := FR.nil _
 refine c_sp ?_
 refine x_pure 1 [(6, .bool false)] _ _ _ (by kernel_rfl) ?_
 refine x_ek ?_
 refine c_sp ?_
 refine x_pure 1 [(15, .slice a_p0 (p0).length c_p0)] _ _ _ (by kernel_rfl) ?_
 obtain ⟨x2, hx, h⟩ := bind_some h
 have hpk : MS w ([] ++ [M]) := hms.pick [some 0] _ rfl
 have hsb0 : ∀ x ∈ fl ([] ++ [M]), x ∈ fl [M] := pick_sub [some 0] _ rfl
 have hsb : ∀ x ∈ fl ([] ++ [(fl [M])]), x ∈ fl [M] := fun x hx => hsb0 x (fl_unfold x hx)
 have hcall := gen_New_w a_p0 c_p0 p0 _ w (fl [M]) (MS.fold (P := []) hpk) (hs_p0.sub hsb) hx
 refine x_call 7 #[] #[] [.slice a_p0 (p0).length c_p0] _ rfl rfl rfl rfl hcall ?_
 rintro v w3 ⟨b0_3, a1_3, c1_3, rfl, he3, hmn3, hfn3, hf3_1, hf3_2⟩
 clear hcall hx
 refine inl1 ?_
 have hpk2 : MS w ([] ++ [M]) := hms.pick [some 0] _ rfl
 have hsb2 : ∀ x ∈ fl ([] ++ [M]), x ∈ fl [M] := pick_sub [some 0] _ rfl
 have hst0 := Stp.call (LS := [M]) (res := [[b0_3]]) (par := []) (R := [M]) he3 (fun b hb => hsb2 b (fl_left' (P := []) b hb)) hfn3 (NP.init _ _) (fun x hx => hsb2 x (fl_right' (P := []) x hx))
 have hsn : ∀ x ∈ fl [[b0_3], M], x ∈ fl ([[b0_3]] ++ ([] ++ [M])) := pick_sub [some 0, some 1] _ rfl
 have hst := hst0.res hsn
 replace hs_p0 := hs_p0.step hst
 replace hms : MS w3 [[b0_3], M] := (MS.call (P := []) (R := [M]) (res := [[b0_3]]) (par := []) hpk2 he3 hmn3 hfn3 (NP.init _ _)).pick [some 0, some 1] _ rfl
 have hfr2 : FR w.heap.size [[b0_3]] := (FR.cons (fun b hb => Nat.le_trans hev.size (hfn3.at 0 rfl b hb)) (FR.nil _))
 replace hev := hev.ext he3
 replace hfr := hfr2
 clear hfr2
 have hsp : ∀ x ∈ fl [[b0_3], M], x ∈ fl ([[b0_3]] ++ ([] ++ [(fl [M])])) := fun x hx => fl_tot (res := [[b0_3]]) (par := []) (R := [M]) x (hsn x hx)
 replace hf3_2 := hf3_2.sub hsp
 clear hpk hsb hsb0 hpk2 hsb2 hst0 hsn hst
 refine x_pure 1 [(7, Vp b0_3 0)] _ _ _ (by kernel_rfl) ?_
 refine x_ek ?_
 refine c_sp ?_
 refine x_pure 1 [(17, Vp b0_3 0)] _ _ _ (by kernel_rfl) ?_
 obtain ⟨x6, hx, h⟩ := bind_some h
 have hpk : MS w3 ([[b0_3]] ++ [M]) := hms.pick [some 0, some 1] _ rfl
 have hsb0 : ∀ x ∈ fl ([[b0_3]] ++ [M]), x ∈ fl [[b0_3], M] := pick_sub [some 0, some 1] _ rfl
 have hsb : ∀ x ∈ fl ([[b0_3]] ++ [(fl [M])]), x ∈ fl [[b0_3], M] := fun x hx => hsb0 x (fl_unfold x hx)
 have hcall := law41_made_w b0_3 a1_3 c1_3 x2.1 x2.2 _ w3 (fl [M]) (hpk.fold (P := [[b0_3]])) (hf3_2.sub hsb) hf3_1 hx
 refine x_call 8 #[] #[] [Vp b0_3 0] _ rfl rfl rfl rfl hcall ?_
 rintro v w7 ⟨a0_7, c0_7, rfl, he7, hp7_0, hmn7, hfn7, hf7_1⟩
 clear hcall hx
 refine inl1 ?_
 have hpk2 : MS w3 ([[b0_3]] ++ [M]) := hms.pick [some 0, some 1] _ rfl
 have hsb2 : ∀ x ∈ fl ([[b0_3]] ++ [M]), x ∈ fl [[b0_3], M] := pick_sub [some 0, some 1] _ rfl
 have hst0 := Stp.call (LS := [[b0_3], M]) (res := [blk a0_7]) (par := [[b0_3]]) (R := [M]) he7 (fun b hb => hsb2 b (fl_left' (P := [[b0_3]]) b hb)) hfn7 (NP.init _ _) (fun x hx => hsb2 x (fl_right' (P := [[b0_3]]) x hx))
 have hsn : ∀ x ∈ fl [blk a0_7, [b0_3], M], x ∈ fl ([blk a0_7] ++ ([[b0_3]] ++ [M])) := pick_sub [some 0, some 1, some 2] _ rfl
 have hst := hst0.res hsn
 replace hf3_2 := hf3_2.step hst
 replace hms : MS w7 [blk a0_7, [b0_3], M] := (MS.call (P := [[b0_3]]) (R := [M]) (res := [blk a0_7]) (par := [[b0_3]]) hpk2 he7 hmn7 hfn7 (NP.init _ _)).pick [some 0, some 1, some 2] _ rfl
 have hPf : ∀ b ∈ fl [[b0_3]], w.heap.size ≤ b := FR.mem (ls := [[b0_3]]) (hfr.pick [some 0] _ rfl)
 have hfr2 : FR w.heap.size [blk a0_7, [b0_3]] := (FR.cons (fun b hb => Nat.le_trans hev.size (hfn7.at 0 rfl b hb)) (FR.cons (hfr.at 0 rfl) (FR.nil _)))
 replace hev := hev.then he7 (fun b hb => .inr (hPf b hb))
 replace hfr := hfr2
 clear hfr2
 replace hf3_1 := hp7_0
 replace hf7_1 := OwnS.plain (M' := fl [blk a0_7, [b0_3], M]) (plain_int _) hf7_1
 clear hpk hsb hsb0 hpk2 hsb2 hst0 hsn hst
 have hpk : MS w7 [[b0_3], M] := hms.pick [some 1, some 2] _ rfl
 have hsu : ∀ x ∈ fl [[b0_3], M], x ∈ fl [blk a0_7, [b0_3], M] := pick_sub [some 1, some 2] _ rfl
 replace hf3_2 := hf3_2.sub hsu
 replace hf7_1 := hf7_1.ro hsu (pick_out hms 0 rfl [some 1, some 2] [[b0_3], M] rfl rfl)
 replace hms := hpk
 replace hfr : FR w.heap.size [[b0_3]] := hfr.pick [some 1] _ rfl
 clear hpk hsu
 refine x_alloc (z := .agg #[Vi 0, Vi 0, .slice none 0 0, Vi 0, Vi 0]) rfl rfl (by kernel_rfl) (fun b9 w9 hq9 hb9 he9 hz9 => ?_)
 replace hb9 : w9.heap[b9]? = some (.cells #[Vi 0, Vi 0, .slice none 0 0, Vi 0, Vi 0] 24 (0, 0)) := hb9
 refine inl1 ?_
 have hst := Stp.box (ls := [[b0_3], M]) he9 hq9
 replace hf3_1 := he9.box hf3_1 nn
 replace hf3_2 := hf3_2.step hst
 replace hf7_1 := hf7_1.step hst
 replace hms := hms.box he9 hq9 hb9
 replace hfr := hfr.box hev.size hq9
 replace hev := hev.ext he9
 obtain ⟨w11, hr11, hb11, he11⟩ := store_boxagg 0 [Vi x6.1.1, Vi x6.1.2.1, .slice a0_7 (x6.1.2.2.1).length c0_7, Vi x6.1.2.2.2.1, Vi x6.1.2.2.2.2] #[Vi x6.1.1, Vi x6.1.2.1, .slice a0_7 (x6.1.2.2.1).length c0_7, Vi x6.1.2.2.2.1, Vi x6.1.2.2.2.2] tagg24 hb9 rfl rfl rfl
 refine x_store w11 (xv := Vp b9 0) (yv := .agg #[Vi x6.1.1, Vi x6.1.2.1, .slice a0_7 (x6.1.2.2.1).length c0_7, Vi x6.1.2.2.2.1, Vi x6.1.2.2.2.2]) rfl rfl rfl rfl hr11 ?_
 refine inl1 ?_
 have hst := Stp.ev' (ls := [[b9], [b0_3], M]) he11 (mem_flat 0 rfl)
 replace hf3_1 := he11.box hf3_1 (hms.apart 1 0 rfl rfl rfl _ mem1)
 replace hf3_2 := hf3_2.step hst
 replace hf7_1 := hf7_1.step hst
 replace hms := hms.ev he11
 replace hev := hev.then he11 (fun b hb => .inr (hfr.at 0 rfl b hb))
 replace hb9 := hb11
 refine x_ek ?_
 refine c_seq ?_
 refine c_drawn [] [(0, false), (1, false), (2, false), (3, false), (4, false), (5, false), (6, false), (7, false), (8, false), (11, false), (12, false), (13, false), (14, false), (15, false), (16, false), (17, false), (18, false), (19, false), (9, false), (10, false), (20, false), (21, false), (22, false), (23, false)] _ (by kernel_rfl) rfl ?_
 have hst := Stp.ext (ls := [[b9], [b0_3], M]) (Ev.drew w11)
 replace hf3_1 := (Ev.drew w11).box hf3_1 nn
 replace hf3_2 := hf3_2.step hst
 replace hf7_1 := hf7_1.step hst
 replace hb9 := (Ev.drew w11).box hb9 nn
 replace hms := hms.ev (Ev.drew w11)
 replace hev := hev.ext (Ev.drew w11)
 refine x_fieldAddr (xv := Vp b9 0) (Vp b9 0) rfl rfl rfl (reads_field tfld24_0 _ _) ?_
 refine x_load (xv := Vp b9 0) (Vi x6.1.1) rfl rfl rfl (reads_box tcell3 hb9 nn 0 _ rfl) ?_
 refine x_pure 1 [(21, Vi p1)] _ _ _ (by kernel_rfl) ?_
 refine x_fieldAddr (xv := Vp b9 0) (Vp b9 1) rfl rfl rfl (reads_field tfld24_1 _ _) ?_
 refine x_load (xv := Vp b9 1) (Vi x6.1.2.1) rfl rfl rfl (reads_box tcell3 hb9 nn 1 _ rfl) ?_
 refine x_fieldAddr (xv := Vp b9 0) (Vp b9 0) rfl rfl rfl (reads_field tfld24_0 _ _) ?_
 refine x_load (xv := Vp b9 0) (Vi x6.1.1) rfl rfl rfl (reads_box tcell3 hb9 nn 0 _ rfl) ?_
 refine x_pure 2 [(26, Vi (IntKind.i64.wrap (x6.1.2.1 - x6.1.1))), (27, Vi (IntKind.i64.wrap ((IntKind.i64.wrap (x6.1.2.1 - x6.1.1)) + 1)))] _ _ _ (by kernel_rfl) ?_
 refine x_fieldAddr (xv := Vp b9 0) (Vp b9 0) rfl rfl rfl (reads_field tfld24_0 _ _) ?_
 refine x_load (xv := Vp b9 0) (Vi x6.1.1) rfl rfl rfl (reads_box tcell3 hb9 nn 0 _ rfl) ?_
 refine x_pure 1 [(32, Vi p2)] _ _ _ (by kernel_rfl) ?_
 refine x_fieldAddr (xv := Vp b9 0) (Vp b9 1) rfl rfl rfl (reads_field tfld24_1 _ _) ?_
 refine x_load (xv := Vp b9 1) (Vi x6.1.2.1) rfl rfl rfl (reads_box tcell3 hb9 nn 1 _ rfl) ?_
 refine x_fieldAddr (xv := Vp b9 0) (Vp b9 0) rfl rfl rfl (reads_field tfld24_0 _ _) ?_
 refine x_load (xv := Vp b9 0) (Vi x6.1.1) rfl rfl rfl (reads_box tcell3 hb9 nn 0 _ rfl) ?_
 refine x_pure 2 [(37, Vi (IntKind.i64.wrap (x6.1.2.1 - x6.1.1))), (38, Vi (IntKind.i64.wrap ((IntKind.i64.wrap (x6.1.2.1 - x6.1.1)) + 1)))] _ _ _ (by kernel_rfl) ?_
 obtain ⟨x12, hx, h⟩ := bind_some h
 have hcall := yardgen_Place_w p1 (IntKind.i64.wrap ((IntKind.i64.wrap (x6.1.2.1 - x6.1.1)) + 1)) _ (w11).drew hx
 refine x_call 16 #[] #[] [Vi p1, Vi (IntKind.i64.wrap ((IntKind.i64.wrap (x6.1.2.1 - x6.1.1)) + 1))] _ rfl rfl rfl rfl hcall ?_
 rintro v w13 ⟨rfl, he13⟩
 clear hcall hx
 refine ⟨.inr he13, ?_⟩
 have hst := Stp.ext (ls := [[b9], [b0_3], M]) he13
 replace hf3_1 := he13.box hf3_1 nn
 replace hf3_2 := hf3_2.step hst
 replace hf7_1 := hf7_1.step hst
 replace hb9 := he13.box hb9 nn
 replace hms := hms.ev he13
 replace hev := hev.ext he13
 refine x_pure 1 [(29, Vi (IntKind.i64.wrap (x6.1.1 + x12)))] _ _ _ (by kernel_rfl) ?_
 obtain ⟨x14, hx, h⟩ := bind_some h
 have hcall := yardgen_Place_w p2 (IntKind.i64.wrap ((IntKind.i64.wrap (x6.1.2.1 - x6.1.1)) + 1)) _ w13 hx
 refine x_call 16 #[] #[] [Vi p2, Vi (IntKind.i64.wrap ((IntKind.i64.wrap (x6.1.2.1 - x6.1.1)) + 1))] _ rfl rfl rfl rfl hcall ?_
 rintro v w15 ⟨rfl, he15⟩
 clear hcall hx
 refine ⟨.inr he15, ?_⟩
 have hst := Stp.ext (ls := [[b9], [b0_3], M]) he15
 replace hf3_1 := he15.box hf3_1 nn
 replace hf3_2 := hf3_2.step hst
 replace hf7_1 := hf7_1.step hst
 replace hb9 := he15.box hb9 nn
 replace hms := hms.ev he15
 replace hev := hev.ext he15
 refine x_pure 3 [(40, Vi (IntKind.i64.wrap (x6.1.1 + x14))), (1, Vi (IntKind.i64.wrap (x6.1.1 + x12))), (2, Vi (IntKind.i64.wrap (x6.1.1 + x14)))] _ _ _ (by kernel_rfl) ?_
 refine x_ek ?_
 refine c_norm [(1, Vi (IntKind.i64.wrap (x6.1.1 + x12))), (2, Vi (IntKind.i64.wrap (x6.1.1 + x14))), (8, Vp b9 0)] ⟨rfl, rfl, rfl, trivial⟩ (fun J => ?_)
 refine c_join (σ := Int × Int) (fun s => match s with | (a_s1_j16, b_s2_j16) => [(1, Vi a_s1_j16), (2, Vi b_s2_j16), (8, Vp b9 0)]) (fun s w' => match s with | (a_s1_j16, b_s2_j16) => law41_ConnectionWaits_J16 x6 a_s1_j16 b_s2_j16 = some r ∧ Ev [] w w' ∧ MS w' [[b9], M] ∧ FR w.heap.size [[b9]] ∧ SlR (eInt .i64) w' (fl [[b9], M]) a0_7 c0_7 x6.1.2.2.1 ∧ w'.heap[b9]? = some (.cells #[Vi x6.1.1, Vi x6.1.2.1, .slice a0_7 (x6.1.2.2.1).length c0_7, Vi x6.1.2.2.2.1, Vi x6.1.2.2.2.2] 24 (0, 0))) ?_ ?_
 · refine c_sp ?_
   refine x_pure 3 [(41, Vi (IntKind.i64.wrap (x6.1.1 + x12))), (42, Vi (IntKind.i64.wrap (x6.1.1 + x14))), (43, .bool (decide ((IntKind.i64.wrap (x6.1.1 + x12)) > (IntKind.i64.wrap (x6.1.1 + x14)))))] _ _ _ (by kernel_rfl) ?_
   refine x_ek ?_
   refine c_cond (decide ((IntKind.i64.wrap (x6.1.1 + x12)) > (IntKind.i64.wrap (x6.1.1 + x14)))) rfl (fun hb => ?_) (fun hb => ?_)
   · replace h := ite_t hb h
     refine c_plain ?_
     refine x_pure 4 [(44, Vi (IntKind.i64.wrap (x6.1.1 + x14))), (45, Vi (IntKind.i64.wrap (x6.1.1 + x12))), (1, Vi (IntKind.i64.wrap (x6.1.1 + x14))), (2, Vi (IntKind.i64.wrap (x6.1.1 + x12)))] _ _ _ (by kernel_rfl) ?_
     refine x_end rfl ?_
     have hpk : MS w15 [[b9], M] := hms.pick [some 0, some 2] _ rfl
     have hsu : ∀ x ∈ fl [[b9], M], x ∈ fl [[b9], [b0_3], M] := pick_sub [some 0, some 2] _ rfl
     replace hf7_1 := hf7_1.sub hsu
     replace hms := hpk
     replace hfr : FR w.heap.size [[b9]] := hfr.pick [some 0] _ rfl
     clear hpk hsu
     exact k_then ⟨(IntKind.i64.wrap (x6.1.1 + x14), IntKind.i64.wrap (x6.1.1 + x12)), ⟨rfl, rfl, rfl, trivial⟩, h, hev, hms, hfr, hf7_1, hb9⟩
   replace h := ite_f hb h
   refine c_skip ?_
   have hpk : MS w15 [[b9], M] := hms.pick [some 0, some 2] _ rfl
   have hsu : ∀ x ∈ fl [[b9], M], x ∈ fl [[b9], [b0_3], M] := pick_sub [some 0, some 2] _ rfl
   replace hf7_1 := hf7_1.sub hsu
   replace hms := hpk
   replace hfr : FR w.heap.size [[b9]] := hfr.pick [some 0] _ rfl
   clear hpk hsu
   exact k_then ⟨(IntKind.i64.wrap (x6.1.1 + x12), IntKind.i64.wrap (x6.1.1 + x14)), ⟨rfl, rfl, rfl, trivial⟩, h, hev, hms, hfr, hf7_1, hb9⟩
 rintro ⟨a_s1_j16, b_s2_j16⟩ J wj16 ⟨h, hev, hms, hfr, hf7_1, hb9⟩
 refine c_sp ?_
 refine x_load (xv := Vp b9 0) (.agg #[Vi x6.1.1, Vi x6.1.2.1, .slice a0_7 (x6.1.2.2.1).length c0_7, Vi x6.1.2.2.2.1, Vi x6.1.2.2.2.2]) rfl rfl rfl (reads_boxagg 0 [Vi x6.1.1, Vi x6.1.2.1, .slice a0_7 (x6.1.2.2.1).length c0_7, Vi x6.1.2.2.2.1, Vi x6.1.2.2.2.2] tagg24 hb9 nn rfl) ?_
 refine x_pure 1 [(48, Vi a_s1_j16)] _ _ _ (by kernel_rfl) ?_
 obtain ⟨x17, hx, h⟩ := bind_some h
 have hpk : MS wj16 ([] ++ [[b9], M]) := hms.pick [some 0, some 1] _ rfl
 have hsb0 : ∀ x ∈ fl ([] ++ [[b9], M]), x ∈ fl [[b9], M] := pick_sub [some 0, some 1] _ rfl
 have hsb : ∀ x ∈ fl ([] ++ [(fl [[b9], M])]), x ∈ fl [[b9], M] := fun x hx => hsb0 x (fl_unfold x hx)
 have hcall := connection_Left_w x6.1.1 x6.1.2.1 a0_7 c0_7 x6.1.2.2.1 x6.1.2.2.2.1 x6.1.2.2.2.2 a_s1_j16 _ wj16 (fl [[b9], M]) (MS.fold (P := []) hpk) (hf7_1.sub hsb) hx
 refine x_call 17 #[] #[] [.agg #[Vi x6.1.1, Vi x6.1.2.1, .slice a0_7 (x6.1.2.2.1).length c0_7, Vi x6.1.2.2.2.1, Vi x6.1.2.2.2.2], Vi a_s1_j16] _ rfl rfl rfl rfl hcall ?_
 rintro v w18 ⟨a0_18, c0_18, rfl, he18, hmn18, hfn18, hf18_1⟩
 clear hcall hx
 refine inl1 ?_
 have hpk2 : MS wj16 ([] ++ [[b9], M]) := hms.pick [some 0, some 1] _ rfl
 have hsb2 : ∀ x ∈ fl ([] ++ [[b9], M]), x ∈ fl [[b9], M] := pick_sub [some 0, some 1] _ rfl
 have hst0 := Stp.call (LS := [[b9], M]) (res := [blk a0_18]) (par := []) (R := [[b9], M]) he18 (fun b hb => hsb2 b (fl_left' (P := []) b hb)) hfn18 (NP.init _ _) (fun x hx => hsb2 x (fl_right' (P := []) x hx))
 have hsn : ∀ x ∈ fl [blk a0_18, [b9], M], x ∈ fl ([blk a0_18] ++ ([] ++ [[b9], M])) := pick_sub [some 0, some 1, some 2] _ rfl
 have hst := hst0.res hsn
 replace hb9 := he18.box hb9 ((MS.outs (P := []) hpk2 0 rfl) _ mem1)
 replace hf7_1 := hf7_1.step hst
 replace hms : MS w18 [blk a0_18, [b9], M] := (MS.call (P := []) (R := [[b9], M]) (res := [blk a0_18]) (par := []) hpk2 he18 hmn18 hfn18 (NP.init _ _)).pick [some 0, some 1, some 2] _ rfl
 have hfr2 : FR w.heap.size [blk a0_18, [b9]] := (FR.cons (fun b hb => Nat.le_trans hev.size (hfn18.at 0 rfl b hb)) (FR.cons (hfr.at 0 rfl) (FR.nil _)))
 replace hev := hev.ext he18
 replace hfr := hfr2
 clear hfr2
 replace hf18_1 := OwnS.plain (M' := fl [blk a0_18, [b9], M]) (plain_int _) hf18_1
 clear hpk hsb hsb0 hpk2 hsb2 hst0 hsn hst
 have hpk : MS w18 [[b9], M] := hms.pick [some 1, some 2] _ rfl
 have hsu : ∀ x ∈ fl [[b9], M], x ∈ fl [blk a0_18, [b9], M] := pick_sub [some 1, some 2] _ rfl
 replace hf7_1 := hf7_1.sub hsu
 replace hf18_1 := hf18_1.ro hsu (pick_out hms 0 rfl [some 1, some 2] [[b9], M] rfl rfl)
 replace hms := hpk
 replace hfr : FR w.heap.size [[b9]] := hfr.pick [some 1] _ rfl
 clear hpk hsu
 refine x_pure 5 [(46, .tuple #[.slice a0_18 (x17.1).length c0_18, Vi x17.2]), (50, .slice a0_18 (x17.1).length c0_18), (51, Vi x17.2), (9, .slice a0_18 (x17.1).length c0_18), (10, Vi x17.2)] _ _ _ (by kernel_rfl) ?_
 refine x_ek ?_
 refine c_norm [(1, Vi a_s1_j16), (2, Vi b_s2_j16), (8, Vp b9 0), (9, .slice a0_18 (x17.1).length c0_18), (10, Vi x17.2)] ⟨rfl, rfl, rfl, rfl, rfl, trivial⟩ (fun J => ?_)
 refine c_sp ?_
 refine x_load (xv := Vp b9 0) (.agg #[Vi x6.1.1, Vi x6.1.2.1, .slice a0_7 (x6.1.2.2.1).length c0_7, Vi x6.1.2.2.2.1, Vi x6.1.2.2.2.2]) rfl rfl rfl (reads_boxagg 0 [Vi x6.1.1, Vi x6.1.2.1, .slice a0_7 (x6.1.2.2.1).length c0_7, Vi x6.1.2.2.2.1, Vi x6.1.2.2.2.2] tagg24 hb9 nn rfl) ?_
 refine x_pure 1 [(54, Vi b_s2_j16)] _ _ _ (by kernel_rfl) ?_
 obtain ⟨x20, hx, h⟩ := bind_some h
 have hpk : MS w18 ([] ++ [[b9], M]) := hms.pick [some 0, some 1] _ rfl
 have hsb0 : ∀ x ∈ fl ([] ++ [[b9], M]), x ∈ fl [[b9], M] := pick_sub [some 0, some 1] _ rfl
 have hsb : ∀ x ∈ fl ([] ++ [(fl [[b9], M])]), x ∈ fl [[b9], M] := fun x hx => hsb0 x (fl_unfold x hx)
 have hcall := connection_Left_w x6.1.1 x6.1.2.1 a0_7 c0_7 x6.1.2.2.1 x6.1.2.2.2.1 x6.1.2.2.2.2 b_s2_j16 _ w18 (fl [[b9], M]) (MS.fold (P := []) hpk) (hf7_1.sub hsb) hx
 refine x_call 17 #[] #[] [.agg #[Vi x6.1.1, Vi x6.1.2.1, .slice a0_7 (x6.1.2.2.1).length c0_7, Vi x6.1.2.2.2.1, Vi x6.1.2.2.2.2], Vi b_s2_j16] _ rfl rfl rfl rfl hcall ?_
 rintro v w21 ⟨a0_21, c0_21, rfl, he21, hmn21, hfn21, hf21_1⟩
 clear hcall hx
 refine inl1 ?_
 have hpk2 : MS w18 ([] ++ [[b9], M]) := hms.pick [some 0, some 1] _ rfl
 have hsb2 : ∀ x ∈ fl ([] ++ [[b9], M]), x ∈ fl [[b9], M] := pick_sub [some 0, some 1] _ rfl
 have hst0 := Stp.call (LS := [[b9], M]) (res := [blk a0_21]) (par := []) (R := [[b9], M]) he21 (fun b hb => hsb2 b (fl_left' (P := []) b hb)) hfn21 (NP.init _ _) (fun x hx => hsb2 x (fl_right' (P := []) x hx))
 have hsn : ∀ x ∈ fl [blk a0_21, [b9], M], x ∈ fl ([blk a0_21] ++ ([] ++ [[b9], M])) := pick_sub [some 0, some 1, some 2] _ rfl
 have hst := hst0.res hsn
 replace hb9 := he21.box hb9 ((MS.outs (P := []) hpk2 0 rfl) _ mem1)
 replace hf7_1 := hf7_1.step hst
 replace hf18_1 := hf18_1.step hst
 replace hms : MS w21 [blk a0_21, [b9], M] := (MS.call (P := []) (R := [[b9], M]) (res := [blk a0_21]) (par := []) hpk2 he21 hmn21 hfn21 (NP.init _ _)).pick [some 0, some 1, some 2] _ rfl
 have hfr2 : FR w.heap.size [blk a0_21, [b9]] := (FR.cons (fun b hb => Nat.le_trans hev.size (hfn21.at 0 rfl b hb)) (FR.cons (hfr.at 0 rfl) (FR.nil _)))
 replace hev := hev.ext he21
 replace hfr := hfr2
 clear hfr2
 replace hf21_1 := OwnS.plain (M' := fl [blk a0_21, [b9], M]) (plain_int _) hf21_1
 clear hpk hsb hsb0 hpk2 hsb2 hst0 hsn hst
 have hpk : MS w21 [[b9], M] := hms.pick [some 1, some 2] _ rfl
 have hsu : ∀ x ∈ fl [[b9], M], x ∈ fl [blk a0_21, [b9], M] := pick_sub [some 1, some 2] _ rfl
 replace hf7_1 := hf7_1.sub hsu
 replace hf18_1 := hf18_1.sub hsu
 replace hf21_1 := hf21_1.ro hsu (pick_out hms 0 rfl [some 1, some 2] [[b9], M] rfl rfl)
 replace hms := hpk
 replace hfr : FR w.heap.size [[b9]] := hfr.pick [some 1] _ rfl
 clear hpk hsu
 refine x_pure 5 [(52, .tuple #[.slice a0_21 (x20.1).length c0_21, Vi x20.2]), (56, .slice a0_21 (x20.1).length c0_21), (57, Vi x20.2), (11, .slice a0_21 (x20.1).length c0_21), (12, Vi x20.2)] _ _ _ (by kernel_rfl) ?_
 refine x_ek ?_
 refine c_seq ?_
 refine c_sp ?_
 refine x_pure 3 [(58, Vi x17.2), (59, .bool (x17.2 != 0)), (60, .bool (x17.2 != 0))] _ _ _ (by kernel_rfl) ?_
 refine x_split 60 (x17.2 != 0) rfl (fun hb => ?_) (fun hb => ?_)
 · replace h := ite_t hb h
   refine x_pure 10 [(61, undef), (62, undef), (63, .bool true), (64, .bool true), (65, undef), (66, undef), (67, undef), (68, undef), (69, undef), (70, .bool true)] _ _ _ (by kernel_rfl) ?_
   refine x_ek ?_
   refine c_norm [(1, Vi a_s1_j16), (8, Vp b9 0), (9, .slice a0_18 (x17.1).length c0_18), (70, .bool true)] ⟨rfl, rfl, rfl, rfl, trivial⟩ (fun J => ?_)
   refine c_true rfl ?_
   refine c_sp ?_
   refine x_pure 1 [(6, .bool false)] _ _ _ (by kernel_rfl) ?_
   refine x_ek ?_
   refine c_ret ?_
   refine k_then_ret ?_
   refine r_ret (r_vals [.bool false] ⟨rfl, trivial⟩ ?_)
   have hx := some_inj h
   subst hx
   have hmr : MS w21 [M] := hms.pick [some 1] _ rfl
   have hsu : ∀ x ∈ fl [M], x ∈ fl [[b9], M] := pick_sub [some 1] _ rfl
   exact ⟨rfl, hev⟩
 replace h := ite_f hb h
 refine x_pure 4 [(61, Vi x20.2), (62, .bool (x20.2 != 0)), (63, .bool (x20.2 != 0)), (64, .bool (x20.2 != 0))] _ _ _ (by kernel_rfl) ?_
 refine x_split 64 (x20.2 != 0) rfl (fun hb => ?_) (fun hb => ?_)
 · replace h := ite_t hb h
   refine x_pure 6 [(65, undef), (66, undef), (67, undef), (68, undef), (69, undef), (70, .bool true)] _ _ _ (by kernel_rfl) ?_
   refine x_ek ?_
   refine c_norm [(1, Vi a_s1_j16), (8, Vp b9 0), (9, .slice a0_18 (x17.1).length c0_18), (70, .bool true)] ⟨rfl, rfl, rfl, rfl, trivial⟩ (fun J => ?_)
   refine c_true rfl ?_
   refine c_sp ?_
   refine x_pure 1 [(6, .bool false)] _ _ _ (by kernel_rfl) ?_
   refine x_ek ?_
   refine c_ret ?_
   refine k_then_ret ?_
   refine r_ret (r_vals [.bool false] ⟨rfl, trivial⟩ ?_)
   have hx := some_inj h
   subst hx
   have hmr : MS w21 [M] := hms.pick [some 1] _ rfl
   have hsu : ∀ x ∈ fl [M], x ∈ fl [[b9], M] := pick_sub [some 1] _ rfl
   exact ⟨rfl, hev⟩
 replace h := ite_f hb h
 refine x_pure 1 [(65, .slice a0_21 (x20.1).length c0_21)] _ _ _ (by kernel_rfl) ?_
 refine x_len (vs := [.slice a0_21 (x20.1).length c0_21]) (Vi ((x20.1).length : Int)) rfl rfl rfl (reads_len tsl22 _ _ _ _ _) ?_
 refine x_pure 1 [(67, .slice a0_18 (x17.1).length c0_18)] _ _ _ (by kernel_rfl) ?_
 refine x_len (vs := [.slice a0_18 (x17.1).length c0_18]) (Vi ((x17.1).length : Int)) rfl rfl rfl (reads_len tsl22 _ _ _ _ _) ?_
 refine x_pure 2 [(69, .bool (decide (((x20.1).length : Int) > ((x17.1).length : Int)))), (70, .bool (decide (((x20.1).length : Int) > ((x17.1).length : Int))))] _ _ _ (by kernel_rfl) ?_
 refine x_ek ?_
 refine c_norm [(1, Vi a_s1_j16), (8, Vp b9 0), (9, .slice a0_18 (x17.1).length c0_18), (70, .bool (decide (((x20.1).length : Int) > ((x17.1).length : Int))))] ⟨rfl, rfl, rfl, rfl, trivial⟩ (fun J => ?_)
 refine c_cond (decide (((x20.1).length : Int) > ((x17.1).length : Int))) rfl (fun hb => ?_) (fun hb => ?_)
 · replace h := ite_t hb h
   refine c_sp ?_
   refine x_pure 1 [(6, .bool false)] _ _ _ (by kernel_rfl) ?_
   refine x_ek ?_
   refine c_ret ?_
   refine k_then_ret ?_
   refine r_ret (r_vals [.bool false] ⟨rfl, trivial⟩ ?_)
   have hx := some_inj h
   subst hx
   have hmr : MS w21 [M] := hms.pick [some 1] _ rfl
   have hsu : ∀ x ∈ fl [M], x ∈ fl [[b9], M] := pick_sub [some 1] _ rfl
   exact ⟨rfl, hev⟩
 replace h := ite_f hb h
 refine c_skip ?_
 refine k_then ?_
 refine c_sp ?_
 refine x_pure 1 [(13, Vi 0)] _ _ _ (by kernel_rfl) ?_
 refine x_ek ?_
 refine c_seq ?_
 refine c_sp ?_
 refine x_pure 1 [(14, Vi 0)] _ _ _ (by kernel_rfl) ?_
 refine x_ek ?_
 refine c_block ?_
 obtain ⟨d25, hd25, h25⟩ := bind_some h
 obtain ⟨m25, hd25⟩ := loop_some hd25
 refine c_loop (loop_rule hmx (σ := Nat × Int × Int) (fun s => match s with | (_, n_s13_l25, i_s14_l25) => [(1, Vi a_s1_j16), (8, Vp b9 0), (9, .slice a0_18 (x17.1).length c0_18), (13, Vi n_s13_l25), (14, Vi i_s14_l25)]) (fun s w' => match s with | (m, n_s13_l25, i_s14_l25) => loopN (law41_ConnectionWaits_L25 x6 a_s1_j16 x17) m (n_s13_l25, i_s14_l25) = some d25 ∧ Ev [] w w' ∧ MS w' [[b9], M] ∧ FR w.heap.size [[b9]] ∧ SlR (eInt .i64) w' (fl [[b9], M]) a0_7 c0_7 x6.1.2.2.1 ∧ w'.heap[b9]? = some (.cells #[Vi x6.1.1, Vi x6.1.2.1, .slice a0_7 (x6.1.2.2.1).length c0_7, Vi x6.1.2.2.2.1, Vi x6.1.2.2.2.2] 24 (0, 0)) ∧ SlR (eInt .i64) w' (fl [[b9], M]) a0_18 c0_18 x17.1) (fun s => s.1) (m25, 0, 0) ⟨rfl, rfl, rfl, rfl, rfl, trivial⟩ ⟨hd25, hev, hms, hfr, hf7_1, hb9, hf18_1⟩ ?_)
 rintro ⟨m25, n_s13_l25, i_s14_l25⟩ J wl25 ⟨hn25, hev, hms, hfr, hf7_1, hb9, hf18_1⟩
 rcases m25 with _ | m25
 · exact (loopN_zero hn25).elim
 obtain ⟨t25, h, hn25⟩ := bind_some hn25
 refine c_seq ?_
 refine c_sp ?_
 refine x_pure 1 [(71, Vi i_s14_l25)] _ _ _ (by kernel_rfl) ?_
 refine x_fieldAddr (xv := Vp b9 0) (Vp b9 2) rfl rfl rfl (reads_field tfld24_2 _ _) ?_
 refine x_load (xv := Vp b9 2) (.slice a0_7 (x6.1.2.2.1).length c0_7) rfl rfl rfl (reads_box tcell22 hb9 nn 2 _ rfl) ?_
 refine x_len (vs := [.slice a0_7 (x6.1.2.2.1).length c0_7]) (Vi ((x6.1.2.2.1).length : Int)) rfl rfl rfl (reads_len tsl22 _ _ _ _ _) ?_
 refine x_pure 1 [(75, .bool (decide (i_s14_l25 < ((x6.1.2.2.1).length : Int))))] _ _ _ (by kernel_rfl) ?_
 refine x_ek ?_
 refine c_norm [(1, Vi a_s1_j16), (8, Vp b9 0), (9, .slice a0_18 (x17.1).length c0_18), (13, Vi n_s13_l25), (14, Vi i_s14_l25), (75, .bool (decide (i_s14_l25 < ((x6.1.2.2.1).length : Int))))] ⟨rfl, rfl, rfl, rfl, rfl, rfl, trivial⟩ (fun J => ?_)
 refine c_cond (decide (i_s14_l25 < ((x6.1.2.2.1).length : Int))) rfl (fun hb => ?_) (fun hb => ?_)
 · replace h := ite_t hb h
   refine c_skip ?_
   refine k_then ?_
   refine c_seq ?_
   refine c_block ?_
   refine c_sp ?_
   refine x_fieldAddr (xv := Vp b9 0) (Vp b9 2) rfl rfl rfl (reads_field tfld24_2 _ _) ?_
   refine x_load (xv := Vp b9 2) (.slice a0_7 (x6.1.2.2.1).length c0_7) rfl rfl rfl (reads_box tcell22 hb9 nn 2 _ rfl) ?_
   refine x_pure 1 [(80, Vi i_s14_l25)] _ _ _ (by kernel_rfl) ?_
   obtain ⟨x27, hx27, h⟩ := bind_some h
   obtain ⟨ad27, cs27, hr27, hc27, hR⟩ := reads_index (Mo := []) tsl22 hf7_1 hx27
   obtain rfl := hR
   refine x_indexAddr (xv := .slice a0_7 (x6.1.2.2.1).length c0_7) (yv := Vi i_s14_l25) (.pointer (some ad27)) rfl rfl rfl rfl hr27 ?_
   refine x_load (xv := .pointer (some ad27)) (Vi x27) rfl rfl rfl (reads_cell0 tcell3 hc27 (fun _ h => by cases h)) ?_
   refine x_pure 2 [(83, Vi a_s1_j16), (84, .bool (decide (x27 > a_s1_j16)))] _ _ _ (by kernel_rfl) ?_
   refine x_ek ?_
   refine c_cond (decide (x27 > a_s1_j16)) rfl (fun hb => ?_) (fun hb => ?_)
   · replace h := ite_t hb h
     refine c_seq ?_
     refine c_sp ?_
     refine x_pure 2 [(85, Vi n_s13_l25), (86, .slice a0_18 (x17.1).length c0_18)] _ _ _ (by kernel_rfl) ?_
     refine x_len (vs := [.slice a0_18 (x17.1).length c0_18]) (Vi ((x17.1).length : Int)) rfl rfl rfl (reads_len tsl22 _ _ _ _ _) ?_
     refine x_pure 2 [(88, .bool (decide (n_s13_l25 ≥ ((x17.1).length : Int)))), (89, .bool (decide (n_s13_l25 ≥ ((x17.1).length : Int))))] _ _ _ (by kernel_rfl) ?_
     refine x_split 89 (decide (n_s13_l25 ≥ ((x17.1).length : Int))) rfl (fun hb => ?_) (fun hb => ?_)
     · replace h := ite_t hb h
       refine x_pure 7 [(90, undef), (91, undef), (92, undef), (93, undef), (94, undef), (95, undef), (96, .bool true)] _ _ _ (by kernel_rfl) ?_
       refine x_ek ?_
       refine c_norm [(1, Vi a_s1_j16), (8, Vp b9 0), (9, .slice a0_18 (x17.1).length c0_18), (13, Vi n_s13_l25), (14, Vi i_s14_l25), (96, .bool true)] ⟨rfl, rfl, rfl, rfl, rfl, rfl, trivial⟩ (fun J => ?_)
       refine c_true rfl ?_
       refine c_sp ?_
       refine x_pure 1 [(6, .bool false)] _ _ _ (by kernel_rfl) ?_
       refine x_ek ?_
       refine c_ret ?_
       refine k_then_ret ?_
       refine k_block_ret ?_
       refine k_then_ret ?_
       have hx := some_inj h
       subst hx
       have hy := some_inj hn25
       subst hy
       replace h := h25
       refine k_then_ret ?_
       refine k_block_ret ?_
       refine k_then_ret ?_
       refine r_ret (r_vals [.bool false] ⟨rfl, trivial⟩ ?_)
       have hx := some_inj h
       subst hx
       have hmr : MS wl25 [M] := hms.pick [some 1] _ rfl
       have hsu : ∀ x ∈ fl [M], x ∈ fl [[b9], M] := pick_sub [some 1] _ rfl
       exact ⟨rfl, hev⟩
     replace h := ite_f hb h
     refine x_pure 2 [(90, .slice a0_18 (x17.1).length c0_18), (91, Vi n_s13_l25)] _ _ _ (by kernel_rfl) ?_
     obtain ⟨x29, hx29, h⟩ := bind_some h
     obtain ⟨ad29, cs29, hr29, hc29, hR⟩ := reads_index (Mo := []) tsl22 hf18_1 hx29
     obtain rfl := hR
     refine x_indexAddr (xv := .slice a0_18 (x17.1).length c0_18) (yv := Vi n_s13_l25) (.pointer (some ad29)) rfl rfl rfl rfl hr29 ?_
     refine x_load (xv := .pointer (some ad29)) (Vi x29) rfl rfl rfl (reads_cell0 tcell3 hc29 (fun _ h => by cases h)) ?_
     refine x_pure 3 [(94, Vi i_s14_l25), (95, .bool (x29 != i_s14_l25)), (96, .bool (x29 != i_s14_l25))] _ _ _ (by kernel_rfl) ?_
     refine x_ek ?_
     refine c_norm [(1, Vi a_s1_j16), (8, Vp b9 0), (9, .slice a0_18 (x17.1).length c0_18), (13, Vi n_s13_l25), (14, Vi i_s14_l25), (96, .bool (x29 != i_s14_l25))] ⟨rfl, rfl, rfl, rfl, rfl, rfl, trivial⟩ (fun J => ?_)
     refine c_cond (x29 != i_s14_l25) rfl (fun hb => ?_) (fun hb => ?_)
     · replace h := ite_t hb h
       refine c_sp ?_
       refine x_pure 1 [(6, .bool false)] _ _ _ (by kernel_rfl) ?_
       refine x_ek ?_
       refine c_ret ?_
       refine k_then_ret ?_
       refine k_block_ret ?_
       refine k_then_ret ?_
       have hx := some_inj h
       subst hx
       have hy := some_inj hn25
       subst hy
       replace h := h25
       refine k_then_ret ?_
       refine k_block_ret ?_
       refine k_then_ret ?_
       refine r_ret (r_vals [.bool false] ⟨rfl, trivial⟩ ?_)
       have hx := some_inj h
       subst hx
       have hmr : MS wl25 [M] := hms.pick [some 1] _ rfl
       have hsu : ∀ x ∈ fl [M], x ∈ fl [[b9], M] := pick_sub [some 1] _ rfl
       exact ⟨rfl, hev⟩
     replace h := ite_f hb h
     refine c_skip ?_
     refine k_then ?_
     refine c_plain ?_
     refine x_pure 3 [(97, Vi n_s13_l25), (98, Vi (IntKind.i64.wrap (n_s13_l25 + 1))), (13, Vi (IntKind.i64.wrap (n_s13_l25 + 1)))] _ _ _ (by kernel_rfl) ?_
     refine x_end rfl ?_
     refine k_block ?_
     refine k_then ?_
     refine c_plain ?_
     refine x_pure 3 [(76, Vi i_s14_l25), (77, Vi (IntKind.i64.wrap (i_s14_l25 + 1))), (14, Vi (IntKind.i64.wrap (i_s14_l25 + 1)))] _ _ _ (by kernel_rfl) ?_
     refine x_end rfl ?_
     have hx := some_inj h
     subst hx
     exact k_then ⟨(m25, IntKind.i64.wrap (n_s13_l25 + 1), IntKind.i64.wrap (i_s14_l25 + 1)), ⟨rfl, rfl, rfl, rfl, rfl, trivial⟩, ⟨hn25, hev, hms, hfr, hf7_1, hb9, hf18_1⟩, Nat.lt_succ_self _⟩
   replace h := ite_f hb h
   refine c_skip ?_
   refine k_block ?_
   refine k_then ?_
   refine c_plain ?_
   refine x_pure 3 [(76, Vi i_s14_l25), (77, Vi (IntKind.i64.wrap (i_s14_l25 + 1))), (14, Vi (IntKind.i64.wrap (i_s14_l25 + 1)))] _ _ _ (by kernel_rfl) ?_
   refine x_end rfl ?_
   have hx := some_inj h
   subst hx
   exact k_then ⟨(m25, n_s13_l25, IntKind.i64.wrap (i_s14_l25 + 1)), ⟨rfl, rfl, rfl, rfl, rfl, trivial⟩, ⟨hn25, hev, hms, hfr, hf7_1, hb9, hf18_1⟩, Nat.lt_succ_self _⟩
 replace h := ite_f hb h
 refine c_exit ?_
 refine k_then_exit ?_
 have hx := some_inj h
 subst hx
 have hy := some_inj hn25
 subst hy
 replace h := h25
 refine k_then_exit ?_
 refine k_block_in ?_
 refine k_then ?_
 refine c_norm [(9, .slice a0_18 (x17.1).length c0_18), (13, Vi n_s13_l25)] ⟨rfl, rfl, trivial⟩ (fun J => ?_)
 refine c_sp ?_
 refine x_pure 2 [(99, Vi n_s13_l25), (100, .slice a0_18 (x17.1).length c0_18)] _ _ _ (by kernel_rfl) ?_
 refine x_len (vs := [.slice a0_18 (x17.1).length c0_18]) (Vi ((x17.1).length : Int)) rfl rfl rfl (reads_len tsl22 _ _ _ _ _) ?_
 refine x_pure 2 [(102, .bool (n_s13_l25 == ((x17.1).length : Int))), (103, .bool (n_s13_l25 == ((x17.1).length : Int)))] _ _ _ (by kernel_rfl) ?_
 refine x_split 103 (n_s13_l25 == ((x17.1).length : Int)) rfl (fun hb => ?_) (fun hb => ?_)
 · replace h := ite_t hb h
   obtain ⟨x31, hx, h⟩ := bind_some h
   have hcall := law41_sane_w _ wl25 hx
   refine x_call 12 #[] #[] [] _ rfl rfl rfl rfl hcall ?_
   rintro v w32 ⟨rfl, he32⟩
   clear hcall hx
   refine inl1 ?_
   have hst := Stp.ext (ls := [[b9], M]) he32
   replace hb9 := he32.box hb9 nn
   replace hf7_1 := hf7_1.step hst
   replace hf18_1 := hf18_1.step hst
   replace hms := hms.ev he32
   replace hev := hev.ext he32
   refine x_pure 2 [(105, .bool x31), (6, .bool x31)] _ _ _ (by kernel_rfl) ?_
   refine x_ek ?_
   refine c_ret ?_
   refine r_ret (r_vals [.bool x31] ⟨rfl, trivial⟩ ?_)
   have hx := some_inj h
   subst hx
   have hmr : MS w32 [M] := hms.pick [some 1] _ rfl
   have hsu : ∀ x ∈ fl [M], x ∈ fl [[b9], M] := pick_sub [some 1] _ rfl
   exact ⟨rfl, hev⟩
 replace h := ite_f hb h
 refine x_pure 3 [(104, undef), (105, .bool false), (6, .bool false)] _ _ _ (by kernel_rfl) ?_
 refine x_ek ?_
 refine c_ret ?_
 refine r_ret (r_vals [.bool false] ⟨rfl, trivial⟩ ?_)
 have hx := some_inj h
 subst hx
 have hmr : MS wl25 [M] := hms.pick [some 1] _ rfl
 have hsu : ∀ x ∈ fl [M], x ∈ fl [[b9], M] := pick_sub [some 1] _ rfl
 exact ⟨rfl, hev⟩
end Go.Proofs.Ytdjadgodphfihaa
