/- Walks, printed by program: each function returns what the partial function of the same name returns. Conditions: those of each theorem. -/
import Derived.Test.YtdjadgodphfihaaGT
import Derived.Test.YtdjadgodphfihaaGgen
import Derived.Test.YtdjadgodphfihaaGlaw41exact
import Derived.Test.YtdjadgodphfihaaGlaw41made
import Derived.Test.YtdjadgodphfihaaGlaw41sane
set_option linter.unusedVariables false
set_option linter.unusedSimpArgs false
set_option maxRecDepth 4000
namespace Go.Proofs.Ytdjadgodphfihaa
open Go Go.V Go.Proofs
def law41_ConnectionExact_J18 (p2 : Int) (x5 : ((List Int) × Int)) (i_s8_l10 : Int) (e7_j18_1 : Int) (e16_j18_0 : Int) (e16_j18_1 : Int) (d14_j18 : List Int) (e16_j18_3 : Int) (e16_j18_4 : Int) : Option (Step (Int × Int) (Unit ⊕ Unit)) :=
((gen_Maker_Next x5.1 e7_j18_1 70).bind fun x38 =>
((law41_exact e16_j18_0 e16_j18_1 d14_j18 e16_j18_3 e16_j18_4 (IntKind.i64.wrap ((IntKind.i64.wrap (e16_j18_0 - 1)) + x38.1))).bind fun x40 =>
(if (!x40) = true then
some (.done (.inl ()))
else
((law41_exact e16_j18_0 e16_j18_1 d14_j18 e16_j18_3 e16_j18_4 p2).bind fun x42 =>
(if (!x42) = true then
some (.done (.inl ()))
else
some (.next (x38.2, IntKind.i64.wrap (i_s8_l10 + 1))))))))

def law41_ConnectionExact_J19 (p2 : Int) (x5 : ((List Int) × Int)) (i_s8_l10 : Int) (x12 : (Int × Int × (List Int) × Int × Int) × Int) (e7_j19_1 : Int) (e16_j19_0 : Int) (e16_j19_1 : Int) : Option (Step (Int × Int) (Unit ⊕ Unit)) :=
((gen_Maker_Pick x5.1 e7_j19_1 ([0, (-1), 1000000, 1000001])).bind fun x22 =>
((gen_Maker_Pick x5.1 x22.2 ([0, (-1), 1000000, 1000001])).bind fun x26 =>
((gen_Maker_Pick x5.1 x26.2 ([0, (-1), 10080, 10081])).bind fun x32 =>
(if x12.1.2.2.1.length + ([x32.1]).length ≤ 4294967296 then
law41_ConnectionExact_J18 p2 x5 i_s8_l10 x32.2 e16_j19_0 e16_j19_1 (x12.1.2.2.1 ++ [x32.1]) x22.1 x26.1
else none))))

def law41_ConnectionExact_L10 (p2 : Int) (x5 : ((List Int) × Int)) (s : Int × Int) : Option (Step (Int × Int) (Unit ⊕ Unit)) :=
match s with
| (e7_l10_1, i_s8_l10) =>
(if (decide (i_s8_l10 < 4)) = true then
((law41_made x5.1 e7_l10_1).bind fun x12 =>
(if (i_s8_l10 == 3) = true then
((gen_Maker_Pick x5.1 x12.2 ([x12.1.1, (-1), IntKind.i64.wrap (x12.1.2.1 + 1)])).bind fun x22 =>
((gen_Maker_Pick x5.1 x22.2 ([x12.1.2.1, 10080, 10081])).bind fun x26 =>
law41_ConnectionExact_J19 p2 x5 i_s8_l10 x12 x26.2 x22.1 x26.1))
else
law41_ConnectionExact_J18 p2 x5 i_s8_l10 x12.2 x12.1.1 x12.1.2.1 x12.1.2.2.1 x12.1.2.2.2.1 x12.1.2.2.2.2))
else
some (.done (.inr ())))

def law41_ConnectionExact (p0 : List Int) (p1_0 : Int) (p1_1 : Int) (p1_2 : List Int) (p1_3 : Int) (p1_4 : Int) (p2 : Int) : Option Bool :=
((gen_New p0).bind fun x5 =>
((loop (law41_ConnectionExact_L10 p2 x5) (x5.2, 0)).bind fun d => match d with
| (.inl _) => some false
| (.inr _) => (if (decide (((p1_2).length : Int) > 200)) = true then
some true
else
((law41_exact p1_0 p1_1 p1_2 p1_3 p1_4 p2).bind fun x44 =>
(if x44 = true then
((law41_sane).bind fun x46 =>
some x46)
else
some false)))))

theorem law41_ConnectionExact_w (a_p0 : Option Addr) (c_p0 : Nat) (p0 : List Int) (p1_0 : Int) (p1_1 : Int) (a_p1_2 : Option Addr) (c_p1_2 : Nat) (p1_2 : List Int) (p1_3 : Int) (p1_4 : Int) (p2 : Int) (r : Bool) (w : World) (M : List Nat) (hms : MS w [M]) (hs_p0 : SlR (eInt .i64) w (fl [M]) a_p0 c_p0 p0) (hs_p1_2 : SlR (eInt .i64) w (fl [M]) a_p1_2 c_p1_2 p1_2) (h : law41_ConnectionExact p0 p1_0 p1_1 p1_2 p1_3 p1_4 p2 = some r) : CallVC Try.prog 3 [.slice a_p0 (p0).length c_p0, .agg #[Vi p1_0, Vi p1_1, .slice a_p1_2 (p1_2).length c_p1_2, Vi p1_3, Vi p1_4], Vi p2] w fun v w' => v = .bool r ∧ Ev [] w w' := by
 refine calls_vc hmx Try.func3 (by kernel_rfl) rfl (rs := [.tmp 6]) rfl (by kernel_rfl) (args := [.slice a_p0 (p0).length c_p0, .agg #[Vi p1_0, Vi p1_1, .slice a_p1_2 (p1_2).length c_p1_2, Vi p1_3, Vi p1_4], Vi p2]) rfl ?_
 have hev : Ev [] w w := Ev.refl _ _
 have hfr : FR w.heap.size [] := FR.nil _
 refine c_sp ?_
 refine x_box (xv := .agg #[Vi p1_0, Vi p1_1, .slice a_p1_2 (p1_2).length c_p1_2, Vi p1_3, Vi p1_4]) rfl rfl rfl (fun b3 w3 hq3 hb3 he3 hz3 => ?_)
 replace hb3 : w3.heap[b3]? = some (.cells #[Vi p1_0, Vi p1_1, .slice a_p1_2 (p1_2).length c_p1_2, Vi p1_3, Vi p1_4] 24 (0, 0)) := hb3
 refine inl1 ?_
 have hst := Stp.box (ls := [M]) he3 hq3
 replace hs_p0 := hs_p0.step hst
 replace hs_p1_2 := hs_p1_2.step hst
 replace hms := hms.box he3 hq3 hb3
 replace hfr := hfr.box hev.size hq3
 replace hev := hev.ext he3
 refine x_pure 1 [(6, .bool false)] _ _ _ (by kernel_rfl) ?_
 refine x_ek ?_
 refine c_sp ?_
 refine x_pure 1 [(10, .slice a_p0 (p0).length c_p0)] _ _ _ (by kernel_rfl) ?_
 obtain ⟨x5, hx, h⟩ := bind_some h
 have hpk : MS w3 ([] ++ [[b3], M]) := hms.pick [some 0, some 1] _ rfl
 have hsb0 : ∀ x ∈ fl ([] ++ [[b3], M]), x ∈ fl [[b3], M] := pick_sub [some 0, some 1] _ rfl
 have hsb : ∀ x ∈ fl ([] ++ [(fl [[b3], M])]), x ∈ fl [[b3], M] := fun x hx => hsb0 x (fl_unfold x hx)
 have hcall := gen_New_w a_p0 c_p0 p0 _ w3 (fl [[b3], M]) (MS.fold (P := []) hpk) (hs_p0.sub hsb) hx
 refine x_call 7 #[] #[] [.slice a_p0 (p0).length c_p0] _ rfl rfl rfl rfl hcall ?_
 rintro v w6 ⟨b0_6, a1_6, c1_6, rfl, he6, hmn6, hfn6, hf6_1, hf6_2⟩
 clear hcall hx
 refine inl1 ?_
 have hpk2 : MS w3 ([] ++ [[b3], M]) := hms.pick [some 0, some 1] _ rfl
 have hsb2 : ∀ x ∈ fl ([] ++ [[b3], M]), x ∈ fl [[b3], M] := pick_sub [some 0, some 1] _ rfl
 have hst0 := Stp.call (LS := [[b3], M]) (res := [[b0_6]]) (par := []) (R := [[b3], M]) he6 (fun b hb => hsb2 b (fl_left' (P := []) b hb)) hfn6 (NP.init _ _) (fun x hx => hsb2 x (fl_right' (P := []) x hx))
 have hsn : ∀ x ∈ fl [[b0_6], [b3], M], x ∈ fl ([[b0_6]] ++ ([] ++ [[b3], M])) := pick_sub [some 0, some 1, some 2] _ rfl
 have hst := hst0.res hsn
 replace hs_p0 := hs_p0.step hst
 replace hs_p1_2 := hs_p1_2.step hst
 replace hb3 := he6.box hb3 ((MS.outs (P := []) hpk2 0 rfl) _ mem1)
 replace hms : MS w6 [[b0_6], [b3], M] := (MS.call (P := []) (R := [[b3], M]) (res := [[b0_6]]) (par := []) hpk2 he6 hmn6 hfn6 (NP.init _ _)).pick [some 0, some 1, some 2] _ rfl
 have hfr2 : FR w.heap.size [[b0_6], [b3]] := (FR.cons (fun b hb => Nat.le_trans hev.size (hfn6.at 0 rfl b hb)) (FR.cons (hfr.at 0 rfl) (FR.nil _)))
 replace hev := hev.ext he6
 replace hfr := hfr2
 clear hfr2
 have hsp : ∀ x ∈ fl [[b0_6], [b3], M], x ∈ fl ([[b0_6]] ++ ([] ++ [(fl [[b3], M])])) := fun x hx => fl_tot (res := [[b0_6]]) (par := []) (R := [[b3], M]) x (hsn x hx)
 replace hf6_2 := hf6_2.sub hsp
 clear hpk hsb hsb0 hpk2 hsb2 hst0 hsn hst
 refine x_pure 1 [(7, Vp b0_6 0)] _ _ _ (by kernel_rfl) ?_
 refine x_ek ?_
 refine c_seq ?_
 refine c_sp ?_
 refine x_pure 1 [(8, Vi 0)] _ _ _ (by kernel_rfl) ?_
 refine x_ek ?_
 refine c_block ?_
 have hpk : MS w6 [[b3], [b0_6], M] := hms.pick [some 1, some 0, some 2] _ rfl
 have hsu : ∀ x ∈ fl [[b3], [b0_6], M], x ∈ fl [[b0_6], [b3], M] := pick_sub [some 1, some 0, some 2] _ rfl
 replace hs_p1_2 := hs_p1_2.sub hsu
 replace hf6_2 := hf6_2.sub hsu
 replace hms := hpk
 replace hfr : FR w.heap.size [[b3], [b0_6]] := hfr.pick [some 1, some 0] _ rfl
 clear hpk hsu
 obtain ⟨d10, hd10, h10⟩ := bind_some h
 obtain ⟨m10, hd10⟩ := loop_some hd10
 refine c_loop (loop_rule hmx (σ := Nat × Int × Int) (fun s => match s with | (_, e7_l10_1, i_s8_l10) => [(2, Vi p2), (4, Vp b3 0), (7, Vp b0_6 0), (8, Vi i_s8_l10)]) (fun s w' => match s with | (m, e7_l10_1, i_s8_l10) => loopN (law41_ConnectionExact_L10 p2 x5) m (e7_l10_1, i_s8_l10) = some d10 ∧ Ev [] w w' ∧ MS w' [[b3], [b0_6], M] ∧ FR w.heap.size [[b3], [b0_6]] ∧ SlR (eInt .i64) w' (fl [[b3], [b0_6], M]) a_p1_2 c_p1_2 p1_2 ∧ w'.heap[b3]? = some (.cells #[Vi p1_0, Vi p1_1, .slice a_p1_2 (p1_2).length c_p1_2, Vi p1_3, Vi p1_4] 24 (0, 0)) ∧ SlR (eInt .i64) w' (fl [[b3], [b0_6], M]) a1_6 c1_6 x5.1 ∧ w'.heap[b0_6]? = some (.cells #[.slice a1_6 (x5.1).length c1_6, Vi e7_l10_1] 45 (0, 0))) (fun s => s.1) (m10, x5.2, 0) ⟨rfl, rfl, rfl, rfl, trivial⟩ ⟨hd10, hev, hms, hfr, hs_p1_2, hb3, hf6_2, hf6_1⟩ ?_)
 rintro ⟨m10, e7_l10_1, i_s8_l10⟩ J wl10 ⟨hn10, hev, hms, hfr, hs_p1_2, hb3, hf6_2, hf6_1⟩
 rcases m10 with _ | m10
 · exact (loopN_zero hn10).elim
 obtain ⟨t10, h, hn10⟩ := bind_some hn10
 refine c_seq ?_
 refine c_sp ?_
 refine x_pure 2 [(12, Vi i_s8_l10), (13, .bool (decide (i_s8_l10 < 4)))] _ _ _ (by kernel_rfl) ?_
 refine x_ek ?_
 refine c_norm [(2, Vi p2), (4, Vp b3 0), (7, Vp b0_6 0), (8, Vi i_s8_l10), (13, .bool (decide (i_s8_l10 < 4)))] ⟨rfl, rfl, rfl, rfl, rfl, trivial⟩ (fun J => ?_)
 refine c_cond (decide (i_s8_l10 < 4)) rfl (fun hb => ?_) (fun hb => ?_)
 · replace h := ite_t hb h
   refine c_skip ?_
   refine k_then ?_
   refine c_seq ?_
   refine c_block ?_
   refine c_sp ?_
   refine x_pure 1 [(16, Vp b0_6 0)] _ _ _ (by kernel_rfl) ?_
   obtain ⟨x12, hx, h⟩ := bind_some h
   have hpk : MS wl10 ([[b0_6]] ++ [[b3], M]) := hms.pick [some 1, some 0, some 2] _ rfl
   have hsb0 : ∀ x ∈ fl ([[b0_6]] ++ [[b3], M]), x ∈ fl [[b3], [b0_6], M] := pick_sub [some 1, some 0, some 2] _ rfl
   have hsb : ∀ x ∈ fl ([[b0_6]] ++ [(fl [[b3], M])]), x ∈ fl [[b3], [b0_6], M] := fun x hx => hsb0 x (fl_unfold x hx)
   have hcall := law41_made_w b0_6 a1_6 c1_6 x5.1 e7_l10_1 _ wl10 (fl [[b3], M]) (hpk.fold (P := [[b0_6]])) (hf6_2.sub hsb) hf6_1 hx
   refine x_call 8 #[] #[] [Vp b0_6 0] _ rfl rfl rfl rfl hcall ?_
   rintro v w13 ⟨a0_13, c0_13, rfl, he13, hp13_0, hmn13, hfn13, hf13_1⟩
   clear hcall hx
   refine inl1 ?_
   have hpk2 : MS wl10 ([[b0_6]] ++ [[b3], M]) := hms.pick [some 1, some 0, some 2] _ rfl
   have hsb2 : ∀ x ∈ fl ([[b0_6]] ++ [[b3], M]), x ∈ fl [[b3], [b0_6], M] := pick_sub [some 1, some 0, some 2] _ rfl
   have hst0 := Stp.call (LS := [[b3], [b0_6], M]) (res := [blk a0_13]) (par := [[b0_6]]) (R := [[b3], M]) he13 (fun b hb => hsb2 b (fl_left' (P := [[b0_6]]) b hb)) hfn13 (NP.init _ _) (fun x hx => hsb2 x (fl_right' (P := [[b0_6]]) x hx))
   have hsn : ∀ x ∈ fl [blk a0_13, [b3], [b0_6], M], x ∈ fl ([blk a0_13] ++ ([[b0_6]] ++ [[b3], M])) := pick_sub [some 0, some 2, some 1, some 3] _ rfl
   have hst := hst0.res hsn
   replace hb3 := he13.box hb3 ((MS.outs (P := [[b0_6]]) hpk2 0 rfl) _ mem1)
   replace hs_p1_2 := hs_p1_2.step hst
   replace hf6_2 := hf6_2.step hst
   replace hms : MS w13 [blk a0_13, [b3], [b0_6], M] := (MS.call (P := [[b0_6]]) (R := [[b3], M]) (res := [blk a0_13]) (par := [[b0_6]]) hpk2 he13 hmn13 hfn13 (NP.init _ _)).pick [some 0, some 2, some 1, some 3] _ rfl
   have hPf : ∀ b ∈ fl [[b0_6]], w.heap.size ≤ b := FR.mem (ls := [[b0_6]]) (hfr.pick [some 1] _ rfl)
   have hfr2 : FR w.heap.size [blk a0_13, [b3], [b0_6]] := (FR.cons (fun b hb => Nat.le_trans hev.size (hfn13.at 0 rfl b hb)) (FR.cons (hfr.at 0 rfl) (FR.cons (hfr.at 1 rfl) (FR.nil _))))
   replace hev := hev.then he13 (fun b hb => .inr (hPf b hb))
   replace hfr := hfr2
   clear hfr2
   replace hf6_1 := hp13_0
   replace hf13_1 := OwnS.plain (M' := fl [blk a0_13, [b3], [b0_6], M]) (plain_int _) hf13_1
   clear hpk hsb hsb0 hpk2 hsb2 hst0 hsn hst
   refine x_alloc (z := .agg #[Vi 0, Vi 0, .slice none 0 0, Vi 0, Vi 0]) rfl rfl (by kernel_rfl) (fun b15 w15 hq15 hb15 he15 hz15 => ?_)
   replace hb15 : w15.heap[b15]? = some (.cells #[Vi 0, Vi 0, .slice none 0 0, Vi 0, Vi 0] 24 (0, 0)) := hb15
   refine inl1 ?_
   have hst := Stp.box (ls := [blk a0_13, [b3], [b0_6], M]) he15 hq15
   replace hb3 := he15.box hb3 nn
   replace hs_p1_2 := hs_p1_2.step hst
   replace hf6_1 := he15.box hf6_1 nn
   replace hf6_2 := hf6_2.step hst
   replace hf13_1 := hf13_1.step hst he15 nn2
   replace hms := hms.box he15 hq15 hb15
   replace hfr := hfr.box hev.size hq15
   replace hev := hev.ext he15
   obtain ⟨w17, hr17, hb17, he17⟩ := store_boxagg 0 [Vi x12.1.1, Vi x12.1.2.1, .slice a0_13 (x12.1.2.2.1).length c0_13, Vi x12.1.2.2.2.1, Vi x12.1.2.2.2.2] #[Vi x12.1.1, Vi x12.1.2.1, .slice a0_13 (x12.1.2.2.1).length c0_13, Vi x12.1.2.2.2.1, Vi x12.1.2.2.2.2] tagg24 hb15 rfl rfl rfl
   refine x_store w17 (xv := Vp b15 0) (yv := .agg #[Vi x12.1.1, Vi x12.1.2.1, .slice a0_13 (x12.1.2.2.1).length c0_13, Vi x12.1.2.2.2.1, Vi x12.1.2.2.2.2]) rfl rfl rfl rfl hr17 ?_
   refine inl1 ?_
   have hst := Stp.ev' (ls := [[b15], blk a0_13, [b3], [b0_6], M]) he17 (mem_flat 0 rfl)
   replace hb3 := he17.box hb3 (hms.apart 2 0 rfl rfl rfl _ mem1)
   replace hs_p1_2 := hs_p1_2.step hst
   replace hf6_1 := he17.box hf6_1 (hms.apart 3 0 rfl rfl rfl _ mem1)
   replace hf6_2 := hf6_2.step hst
   replace hf13_1 := hf13_1.step hst he17 (hms.apart 1 0 rfl rfl rfl)
   replace hms := hms.ev he17
   replace hev := hev.then he17 (fun b hb => .inr (hfr.at 0 rfl b hb))
   replace hb15 := hb17
   refine x_ek ?_
   refine c_join (σ := Int × Int × Int × (List Int) × Int × Int × Option Addr × Nat) (fun s => match s with | (e7_j18_1, e16_j18_0, e16_j18_1, d14_j18, e16_j18_3, e16_j18_4, a14_j18, c14_j18) => [(2, Vi p2), (4, Vp b3 0), (7, Vp b0_6 0), (8, Vi i_s8_l10), (9, Vp b15 0)]) (fun s w' => match s with | (e7_j18_1, e16_j18_0, e16_j18_1, d14_j18, e16_j18_3, e16_j18_4, a14_j18, c14_j18) => law41_ConnectionExact_J18 p2 x5 i_s8_l10 e7_j18_1 e16_j18_0 e16_j18_1 d14_j18 e16_j18_3 e16_j18_4 = some t10 ∧ Ev [] w w' ∧ MS w' [[b3], [b0_6], blk a14_j18, [b15], M] ∧ FR w.heap.size [[b3], [b0_6], blk a14_j18, [b15]] ∧ SlR (eInt .i64) w' (fl [[b3], [b0_6], blk a14_j18, [b15], M]) a_p1_2 c_p1_2 p1_2 ∧ w'.heap[b3]? = some (.cells #[Vi p1_0, Vi p1_1, .slice a_p1_2 (p1_2).length c_p1_2, Vi p1_3, Vi p1_4] 24 (0, 0)) ∧ SlR (eInt .i64) w' (fl [[b3], [b0_6], blk a14_j18, [b15], M]) a1_6 c1_6 x5.1 ∧ w'.heap[b0_6]? = some (.cells #[.slice a1_6 (x5.1).length c1_6, Vi e7_j18_1] 45 (0, 0)) ∧ OwnS (eInt .i64) 3 w' (fl [[b3], [b0_6], blk a14_j18, [b15], M]) a14_j18 c14_j18 d14_j18 ∧ w'.heap[b15]? = some (.cells #[Vi e16_j18_0, Vi e16_j18_1, .slice a14_j18 (d14_j18).length c14_j18, Vi e16_j18_3, Vi e16_j18_4] 24 (0, 0))) ?_ ?_
   · refine c_sp ?_
     refine x_pure 2 [(18, Vi i_s8_l10), (19, .bool (i_s8_l10 == 3))] _ _ _ (by kernel_rfl) ?_
     refine x_ek ?_
     refine c_cond (i_s8_l10 == 3) rfl (fun hb => ?_) (fun hb => ?_)
     · replace h := ite_t hb h
       refine c_join (σ := Int × Int × Int) (fun s => match s with | (e7_j19_1, e16_j19_0, e16_j19_1) => [(2, Vi p2), (4, Vp b3 0), (7, Vp b0_6 0), (8, Vi i_s8_l10), (9, Vp b15 0)]) (fun s w' => match s with | (e7_j19_1, e16_j19_0, e16_j19_1) => law41_ConnectionExact_J19 p2 x5 i_s8_l10 x12 e7_j19_1 e16_j19_0 e16_j19_1 = some t10 ∧ Ev [] w w' ∧ MS w' [[b3], [b0_6], blk a0_13, [b15], M] ∧ FR w.heap.size [[b3], [b0_6], blk a0_13, [b15]] ∧ SlR (eInt .i64) w' (fl [[b3], [b0_6], blk a0_13, [b15], M]) a_p1_2 c_p1_2 p1_2 ∧ w'.heap[b3]? = some (.cells #[Vi p1_0, Vi p1_1, .slice a_p1_2 (p1_2).length c_p1_2, Vi p1_3, Vi p1_4] 24 (0, 0)) ∧ SlR (eInt .i64) w' (fl [[b3], [b0_6], blk a0_13, [b15], M]) a1_6 c1_6 x5.1 ∧ w'.heap[b0_6]? = some (.cells #[.slice a1_6 (x5.1).length c1_6, Vi e7_j19_1] 45 (0, 0)) ∧ OwnS (eInt .i64) 3 w' (fl [[b3], [b0_6], blk a0_13, [b15], M]) a0_13 c0_13 x12.1.2.2.1 ∧ w'.heap[b15]? = some (.cells #[Vi e16_j19_0, Vi e16_j19_1, .slice a0_13 (x12.1.2.2.1).length c0_13, Vi x12.1.2.2.2.1, Vi x12.1.2.2.2.2] 24 (0, 0))) ?_ ?_
       · refine c_drawnp [b0_6] [(0, false), (1, false), (2, false), (3, false), (4, false), (5, false), (8, false), (9, false), (10, false)] (.alt 6 false (opsThen [] (.alt 7 false (opsThen [(13, false), (11, false), (12, false), (14, true), (15, true), (16, true)] .stop) (.alt 11 false (opsThen [(7, false), (13, false), (12, false), (14, true), (15, true), (16, true)] .stop) .none_))) (.alt 11 false (opsThen [(6, false), (7, false), (13, false), (12, false), (14, true), (15, true), (16, true)] .stop) .none_)) _ (by kernel_rfl) rfl ?_
         have hst := Stp.ext (ls := [[b15], blk a0_13, [b3], [b0_6], M]) (Ev.drew w17)
         replace hb3 := (Ev.drew w17).box hb3 nn
         replace hs_p1_2 := hs_p1_2.step hst
         replace hf6_1 := (Ev.drew w17).box hf6_1 nn
         replace hf6_2 := hf6_2.step hst
         replace hf13_1 := hf13_1.step hst (Ev.drew w17) nn2
         replace hb15 := (Ev.drew w17).box hb15 nn
         replace hms := hms.ev (Ev.drew w17)
         replace hev := hev.ext (Ev.drew w17)
         refine x_pure 1 [(20, Vp b0_6 0)] _ _ _ (by kernel_rfl) ?_
         refine x_fieldAddr (xv := Vp b15 0) (Vp b15 0) rfl rfl rfl (reads_field tfld24_0 _ _) ?_
         refine x_load (xv := Vp b15 0) (Vi x12.1.1) rfl rfl rfl (reads_box tcell3 hb15 ((hms.apart 0 3 rfl rfl rfl) _ mem1) 0 _ rfl) ?_
         refine x_fieldAddr (xv := Vp b15 0) (Vp b15 1) rfl rfl rfl (reads_field tfld24_1 _ _) ?_
         refine x_load (xv := Vp b15 1) (Vi x12.1.2.1) rfl rfl rfl (reads_box tcell3 hb15 ((hms.apart 0 3 rfl rfl rfl) _ mem1) 1 _ rfl) ?_
         refine x_pure 2 [(25, Vi (IntKind.i64.wrap (x12.1.2.1 + 1))), (28, Vp b0_6 0)] _ _ _ (by kernel_rfl) ?_
         refine x_fieldAddr (xv := Vp b15 0) (Vp b15 1) rfl rfl rfl (reads_field tfld24_1 _ _) ?_
         refine x_load (xv := Vp b15 1) (Vi x12.1.2.1) rfl rfl rfl (reads_box tcell3 hb15 ((hms.apart 0 3 rfl rfl rfl) _ mem1) 1 _ rfl) ?_
         refine x_end rfl ?_
         refine t_alt _ rfl ?_ ?_
         · refine x_buildSlice (vs := [(0, Vi x12.1.1), (1, Vi (-1)), (2, Vi (IntKind.i64.wrap (x12.1.2.1 + 1)))]) #[Vi x12.1.1, Vi (-1), Vi (IntKind.i64.wrap (x12.1.2.1 + 1))] 3 rfl rfl rfl (by kernel_rfl) (fun b20 w20 hq20 hb20 he20 hz20 => ?_)
           refine ⟨.inr (he20.nil), ?_⟩
           have hms0 := hms
           have hst := Stp.ext (ls := [[b15], blk a0_13, [b3], [b0_6], M]) he20
           replace hb3 := he20.box hb3 nn
           replace hs_p1_2 := hs_p1_2.step hst
           replace hf6_1 := he20.box hf6_1 nn
           replace hf6_2 := hf6_2.step hst
           replace hf13_1 := hf13_1.step hst he20 nn2
           replace hb15 := he20.box hb15 nn
           replace hms := hms.ev he20
           replace hev := hev.ext he20
           have hs20 : SlR (eInt .i64) w20 (fl [[b15], blk a0_13, [b3], [b0_6], M]) (Ad b20 0) 3 ([x12.1.1, (-1), IntKind.i64.wrap (x12.1.2.1 + 1)]) := ro_of_box hms0 hq20 hb20 rfl rfl (cells_at (cs := [Vi x12.1.1, Vi (-1), Vi (IntKind.i64.wrap (x12.1.2.1 + 1))]) (CellsOf.cons (c := [Vi x12.1.1]) rfl (CellsOf.cons (c := [Vi (-1)]) rfl (CellsOf.cons (c := [Vi (IntKind.i64.wrap (x12.1.2.1 + 1))]) rfl CellsOf.nil))))
           clear hb20 hms0
           refine x_end rfl ?_
           refine t_alt _ rfl ?_ ?_
           · obtain ⟨x22, hx, h⟩ := bind_some h
             have hpk : MS w20 ([[b0_6]] ++ [[b15], blk a0_13, [b3], M]) := hms.pick [some 3, some 0, some 1, some 2, some 4] _ rfl
             have hsb0 : ∀ x ∈ fl ([[b0_6]] ++ [[b15], blk a0_13, [b3], M]), x ∈ fl [[b15], blk a0_13, [b3], [b0_6], M] := pick_sub [some 3, some 0, some 1, some 2, some 4] _ rfl
             have hsb : ∀ x ∈ fl ([[b0_6]] ++ [(fl [[b15], blk a0_13, [b3], M])]), x ∈ fl [[b15], blk a0_13, [b3], [b0_6], M] := fun x hx => hsb0 x (fl_unfold x hx)
             have hcall := gen_Maker_Pick_w b0_6 a1_6 c1_6 x5.1 x12.2 (Ad b20 0) 3 ([x12.1.1, (-1), IntKind.i64.wrap (x12.1.2.1 + 1)]) _ w20 (fl [[b15], blk a0_13, [b3], M]) (hpk.fold (P := [[b0_6]])) (hf6_2.sub hsb) hf6_1 (hs20.sub hsb) hx
             refine x_call 9 #[] #[] [Vp b0_6 0, .slice (Ad b20 0) ([x12.1.1, (-1), IntKind.i64.wrap (x12.1.2.1 + 1)]).length 3] _ rfl rfl rfl rfl hcall ?_
             rintro v w23 ⟨rfl, he23, hp23_0⟩
             clear hcall hx
             refine ⟨.inr he23, ?_⟩
             have hpk2 : MS w20 ([[b0_6]] ++ [[b15], blk a0_13, [b3], M]) := hms.pick [some 3, some 0, some 1, some 2, some 4] _ rfl
             have hsb2 : ∀ x ∈ fl ([[b0_6]] ++ [[b15], blk a0_13, [b3], M]), x ∈ fl [[b15], blk a0_13, [b3], [b0_6], M] := pick_sub [some 3, some 0, some 1, some 2, some 4] _ rfl
             have hst0 := Stp.call (LS := [[b15], blk a0_13, [b3], [b0_6], M]) (res := []) (par := [[b0_6]]) (R := [[b15], blk a0_13, [b3], M]) he23 (fun b hb => hsb2 b (fl_left' (P := [[b0_6]]) b hb)) (FR.nil _) (NP.init _ _) (fun x hx => hsb2 x (fl_right' (P := [[b0_6]]) x hx))
             have hsn : ∀ x ∈ fl [[b15], blk a0_13, [b3], [b0_6], M], x ∈ fl ([] ++ ([[b0_6]] ++ [[b15], blk a0_13, [b3], M])) := pick_sub [some 1, some 2, some 3, some 0, some 4] _ rfl
             have hst := hst0.res hsn
             replace hb3 := he23.box hb3 ((MS.outs (P := [[b0_6]]) hpk2 2 rfl) _ mem1)
             replace hs_p1_2 := hs_p1_2.step hst
             replace hf6_2 := hf6_2.step hst
             replace hf13_1 := hf13_1.step hst he23 (MS.outs (P := [[b0_6]]) hpk2 1 rfl)
             replace hb15 := he23.box hb15 ((MS.outs (P := [[b0_6]]) hpk2 0 rfl) _ mem1)
             replace hs20 := hs20.step hst
             replace hms := hms.ev he23
             have hPf : ∀ b ∈ fl [[b0_6]], w.heap.size ≤ b := FR.mem (ls := [[b0_6]]) (hfr.pick [some 3] _ rfl)
             replace hev := hev.then he23 (fun b hb => .inr (hPf b hb))
             replace hf6_1 := hp23_0
             clear hpk hsb hsb0 hpk2 hsb2 hst0 hsn hst
             refine x_fieldAddr (xv := Vp b15 0) (Vp b15 0) rfl rfl rfl (reads_field tfld24_0 _ _) ?_
             refine x_buildSlice (vs := [(0, Vi x12.1.2.1), (1, Vi 10080), (2, Vi 10081)]) #[Vi x12.1.2.1, Vi 10080, Vi 10081] 3 rfl rfl rfl (by kernel_rfl) (fun b24 w24 hq24 hb24 he24 hz24 => ?_)
             refine ⟨.inr (he24.nil), ?_⟩
             have hms0 := hms
             have hst := Stp.ext (ls := [[b15], blk a0_13, [b3], [b0_6], M]) he24
             replace hb3 := he24.box hb3 nn
             replace hs_p1_2 := hs_p1_2.step hst
             replace hf6_1 := he24.box hf6_1 nn
             replace hf6_2 := hf6_2.step hst
             replace hf13_1 := hf13_1.step hst he24 nn2
             replace hb15 := he24.box hb15 nn
             replace hs20 := hs20.step hst
             replace hms := hms.ev he24
             replace hev := hev.ext he24
             have hs24 : SlR (eInt .i64) w24 (fl [[b15], blk a0_13, [b3], [b0_6], M]) (Ad b24 0) 3 ([x12.1.2.1, 10080, 10081]) := ro_of_box hms0 hq24 hb24 rfl rfl (cells_at (cs := [Vi x12.1.2.1, Vi 10080, Vi 10081]) (CellsOf.cons (c := [Vi x12.1.2.1]) rfl (CellsOf.cons (c := [Vi 10080]) rfl (CellsOf.cons (c := [Vi 10081]) rfl CellsOf.nil))))
             clear hb24 hms0
             obtain ⟨x26, hx, h⟩ := bind_some h
             have hpk : MS w24 ([[b0_6]] ++ [[b15], blk a0_13, [b3], M]) := hms.pick [some 3, some 0, some 1, some 2, some 4] _ rfl
             have hsb0 : ∀ x ∈ fl ([[b0_6]] ++ [[b15], blk a0_13, [b3], M]), x ∈ fl [[b15], blk a0_13, [b3], [b0_6], M] := pick_sub [some 3, some 0, some 1, some 2, some 4] _ rfl
             have hsb : ∀ x ∈ fl ([[b0_6]] ++ [(fl [[b15], blk a0_13, [b3], M])]), x ∈ fl [[b15], blk a0_13, [b3], [b0_6], M] := fun x hx => hsb0 x (fl_unfold x hx)
             have hcall := gen_Maker_Pick_w b0_6 a1_6 c1_6 x5.1 x22.2 (Ad b24 0) 3 ([x12.1.2.1, 10080, 10081]) _ w24 (fl [[b15], blk a0_13, [b3], M]) (hpk.fold (P := [[b0_6]])) (hf6_2.sub hsb) hf6_1 (hs24.sub hsb) hx
             refine x_call 9 #[] #[] [Vp b0_6 0, .slice (Ad b24 0) ([x12.1.2.1, 10080, 10081]).length 3] _ rfl rfl rfl rfl hcall ?_
             rintro v w27 ⟨rfl, he27, hp27_0⟩
             clear hcall hx
             refine ⟨.inr he27, ?_⟩
             have hpk2 : MS w24 ([[b0_6]] ++ [[b15], blk a0_13, [b3], M]) := hms.pick [some 3, some 0, some 1, some 2, some 4] _ rfl
             have hsb2 : ∀ x ∈ fl ([[b0_6]] ++ [[b15], blk a0_13, [b3], M]), x ∈ fl [[b15], blk a0_13, [b3], [b0_6], M] := pick_sub [some 3, some 0, some 1, some 2, some 4] _ rfl
             have hst0 := Stp.call (LS := [[b15], blk a0_13, [b3], [b0_6], M]) (res := []) (par := [[b0_6]]) (R := [[b15], blk a0_13, [b3], M]) he27 (fun b hb => hsb2 b (fl_left' (P := [[b0_6]]) b hb)) (FR.nil _) (NP.init _ _) (fun x hx => hsb2 x (fl_right' (P := [[b0_6]]) x hx))
             have hsn : ∀ x ∈ fl [[b15], blk a0_13, [b3], [b0_6], M], x ∈ fl ([] ++ ([[b0_6]] ++ [[b15], blk a0_13, [b3], M])) := pick_sub [some 1, some 2, some 3, some 0, some 4] _ rfl
             have hst := hst0.res hsn
             replace hb3 := he27.box hb3 ((MS.outs (P := [[b0_6]]) hpk2 2 rfl) _ mem1)
             replace hs_p1_2 := hs_p1_2.step hst
             replace hf6_2 := hf6_2.step hst
             replace hf13_1 := hf13_1.step hst he27 (MS.outs (P := [[b0_6]]) hpk2 1 rfl)
             replace hb15 := he27.box hb15 ((MS.outs (P := [[b0_6]]) hpk2 0 rfl) _ mem1)
             replace hs20 := hs20.step hst
             replace hs24 := hs24.step hst
             replace hms := hms.ev he27
             have hPf : ∀ b ∈ fl [[b0_6]], w.heap.size ≤ b := FR.mem (ls := [[b0_6]]) (hfr.pick [some 3] _ rfl)
             replace hev := hev.then he27 (fun b hb => .inr (hPf b hb))
             replace hf6_1 := hp27_0
             clear hpk hsb hsb0 hpk2 hsb2 hst0 hsn hst
             obtain ⟨w28, hr28, hb28, he28⟩ := store_box 0 (Vi x22.1) #[Vi x22.1, Vi x12.1.2.1, .slice a0_13 (x12.1.2.2.1).length c0_13, Vi x12.1.2.2.2.1, Vi x12.1.2.2.2.2] tcell3 hb15 rfl rfl rfl
             refine x_store w28 (xv := Vp b15 0) (yv := Vi x22.1) rfl rfl rfl rfl hr28 ?_
             refine inl1 ?_
             have hst := Stp.ev' (ls := [[b15], blk a0_13, [b3], [b0_6], M]) he28 (mem_flat 0 rfl)
             replace hb3 := he28.box hb3 (hms.apart 2 0 rfl rfl rfl _ mem1)
             replace hs_p1_2 := hs_p1_2.step hst
             replace hf6_1 := he28.box hf6_1 (hms.apart 3 0 rfl rfl rfl _ mem1)
             replace hf6_2 := hf6_2.step hst
             replace hf13_1 := hf13_1.step hst he28 (hms.apart 1 0 rfl rfl rfl)
             replace hs20 := hs20.step hst
             replace hs24 := hs24.step hst
             replace hms := hms.ev he28
             replace hev := hev.then he28 (fun b hb => .inr (hfr.at 0 rfl b hb))
             replace hb15 := hb28
             refine x_fieldAddr (xv := Vp b15 0) (Vp b15 1) rfl rfl rfl (reads_field tfld24_1 _ _) ?_
             obtain ⟨w29, hr29, hb29, he29⟩ := store_box 1 (Vi x26.1) #[Vi x22.1, Vi x26.1, .slice a0_13 (x12.1.2.2.1).length c0_13, Vi x12.1.2.2.2.1, Vi x12.1.2.2.2.2] tcell3 hb15 rfl rfl rfl
             refine x_store w29 (xv := Vp b15 1) (yv := Vi x26.1) rfl rfl rfl rfl hr29 ?_
             refine inl1 ?_
             have hst := Stp.ev' (ls := [[b15], blk a0_13, [b3], [b0_6], M]) he29 (mem_flat 0 rfl)
             replace hb3 := he29.box hb3 (hms.apart 2 0 rfl rfl rfl _ mem1)
             replace hs_p1_2 := hs_p1_2.step hst
             replace hf6_1 := he29.box hf6_1 (hms.apart 3 0 rfl rfl rfl _ mem1)
             replace hf6_2 := hf6_2.step hst
             replace hf13_1 := hf13_1.step hst he29 (hms.apart 1 0 rfl rfl rfl)
             replace hs20 := hs20.step hst
             replace hs24 := hs24.step hst
             replace hms := hms.ev he29
             replace hev := hev.then he29 (fun b hb => .inr (hfr.at 0 rfl b hb))
             replace hb15 := hb29
             refine x_end rfl ?_
             refine t_stop ?_
             have hpk : MS w29 [[b3], [b0_6], blk a0_13, [b15], M] := hms.pick [some 2, some 3, some 1, some 0, some 4] _ rfl
             have hsu : ∀ x ∈ fl [[b3], [b0_6], blk a0_13, [b15], M], x ∈ fl [[b15], blk a0_13, [b3], [b0_6], M] := pick_sub [some 2, some 3, some 1, some 0, some 4] _ rfl
             replace hs_p1_2 := hs_p1_2.sub hsu
             replace hf6_2 := hf6_2.sub hsu
             replace hf13_1 := hf13_1.sub hsu
             replace hms := hpk
             replace hfr : FR w.heap.size [[b3], [b0_6], blk a0_13, [b15]] := hfr.pick [some 2, some 3, some 1, some 0] _ rfl
             clear hpk hsu
             exact k_then ⟨(x26.2, x22.1, x26.1), ⟨rfl, rfl, rfl, rfl, rfl, trivial⟩, h, hev, hms, hfr, hs_p1_2, hb3, hf6_2, hf6_1, hf13_1, hb15⟩
           refine t_alt _ rfl ?_ ?_
           · refine x_buildSlice (vs := [(0, Vi x12.1.2.1), (1, Vi 10080), (2, Vi 10081)]) #[Vi x12.1.2.1, Vi 10080, Vi 10081] 3 rfl rfl rfl (by kernel_rfl) (fun b22 w22 hq22 hb22 he22 hz22 => ?_)
             refine ⟨.inr (he22.nil), ?_⟩
             have hms0 := hms
             have hst := Stp.ext (ls := [[b15], blk a0_13, [b3], [b0_6], M]) he22
             replace hb3 := he22.box hb3 nn
             replace hs_p1_2 := hs_p1_2.step hst
             replace hf6_1 := he22.box hf6_1 nn
             replace hf6_2 := hf6_2.step hst
             replace hf13_1 := hf13_1.step hst he22 nn2
             replace hb15 := he22.box hb15 nn
             replace hs20 := hs20.step hst
             replace hms := hms.ev he22
             replace hev := hev.ext he22
             have hs22 : SlR (eInt .i64) w22 (fl [[b15], blk a0_13, [b3], [b0_6], M]) (Ad b22 0) 3 ([x12.1.2.1, 10080, 10081]) := ro_of_box hms0 hq22 hb22 rfl rfl (cells_at (cs := [Vi x12.1.2.1, Vi 10080, Vi 10081]) (CellsOf.cons (c := [Vi x12.1.2.1]) rfl (CellsOf.cons (c := [Vi 10080]) rfl (CellsOf.cons (c := [Vi 10081]) rfl CellsOf.nil))))
             clear hb22 hms0
             obtain ⟨x24, hx, h⟩ := bind_some h
             have hpk : MS w22 ([[b0_6]] ++ [[b15], blk a0_13, [b3], M]) := hms.pick [some 3, some 0, some 1, some 2, some 4] _ rfl
             have hsb0 : ∀ x ∈ fl ([[b0_6]] ++ [[b15], blk a0_13, [b3], M]), x ∈ fl [[b15], blk a0_13, [b3], [b0_6], M] := pick_sub [some 3, some 0, some 1, some 2, some 4] _ rfl
             have hsb : ∀ x ∈ fl ([[b0_6]] ++ [(fl [[b15], blk a0_13, [b3], M])]), x ∈ fl [[b15], blk a0_13, [b3], [b0_6], M] := fun x hx => hsb0 x (fl_unfold x hx)
             have hcall := gen_Maker_Pick_w b0_6 a1_6 c1_6 x5.1 x12.2 (Ad b20 0) 3 ([x12.1.1, (-1), IntKind.i64.wrap (x12.1.2.1 + 1)]) _ w22 (fl [[b15], blk a0_13, [b3], M]) (hpk.fold (P := [[b0_6]])) (hf6_2.sub hsb) hf6_1 (hs20.sub hsb) hx
             refine x_call 9 #[] #[] [Vp b0_6 0, .slice (Ad b20 0) ([x12.1.1, (-1), IntKind.i64.wrap (x12.1.2.1 + 1)]).length 3] _ rfl rfl rfl rfl hcall ?_
             rintro v w25 ⟨rfl, he25, hp25_0⟩
             clear hcall hx
             refine ⟨.inr he25, ?_⟩
             have hpk2 : MS w22 ([[b0_6]] ++ [[b15], blk a0_13, [b3], M]) := hms.pick [some 3, some 0, some 1, some 2, some 4] _ rfl
             have hsb2 : ∀ x ∈ fl ([[b0_6]] ++ [[b15], blk a0_13, [b3], M]), x ∈ fl [[b15], blk a0_13, [b3], [b0_6], M] := pick_sub [some 3, some 0, some 1, some 2, some 4] _ rfl
             have hst0 := Stp.call (LS := [[b15], blk a0_13, [b3], [b0_6], M]) (res := []) (par := [[b0_6]]) (R := [[b15], blk a0_13, [b3], M]) he25 (fun b hb => hsb2 b (fl_left' (P := [[b0_6]]) b hb)) (FR.nil _) (NP.init _ _) (fun x hx => hsb2 x (fl_right' (P := [[b0_6]]) x hx))
             have hsn : ∀ x ∈ fl [[b15], blk a0_13, [b3], [b0_6], M], x ∈ fl ([] ++ ([[b0_6]] ++ [[b15], blk a0_13, [b3], M])) := pick_sub [some 1, some 2, some 3, some 0, some 4] _ rfl
             have hst := hst0.res hsn
             replace hb3 := he25.box hb3 ((MS.outs (P := [[b0_6]]) hpk2 2 rfl) _ mem1)
             replace hs_p1_2 := hs_p1_2.step hst
             replace hf6_2 := hf6_2.step hst
             replace hf13_1 := hf13_1.step hst he25 (MS.outs (P := [[b0_6]]) hpk2 1 rfl)
             replace hb15 := he25.box hb15 ((MS.outs (P := [[b0_6]]) hpk2 0 rfl) _ mem1)
             replace hs20 := hs20.step hst
             replace hs22 := hs22.step hst
             replace hms := hms.ev he25
             have hPf : ∀ b ∈ fl [[b0_6]], w.heap.size ≤ b := FR.mem (ls := [[b0_6]]) (hfr.pick [some 3] _ rfl)
             replace hev := hev.then he25 (fun b hb => .inr (hPf b hb))
             replace hf6_1 := hp25_0
             clear hpk hsb hsb0 hpk2 hsb2 hst0 hsn hst
             refine x_fieldAddr (xv := Vp b15 0) (Vp b15 0) rfl rfl rfl (reads_field tfld24_0 _ _) ?_
             obtain ⟨x26, hx, h⟩ := bind_some h
             have hpk : MS w25 ([[b0_6]] ++ [[b15], blk a0_13, [b3], M]) := hms.pick [some 3, some 0, some 1, some 2, some 4] _ rfl
             have hsb0 : ∀ x ∈ fl ([[b0_6]] ++ [[b15], blk a0_13, [b3], M]), x ∈ fl [[b15], blk a0_13, [b3], [b0_6], M] := pick_sub [some 3, some 0, some 1, some 2, some 4] _ rfl
             have hsb : ∀ x ∈ fl ([[b0_6]] ++ [(fl [[b15], blk a0_13, [b3], M])]), x ∈ fl [[b15], blk a0_13, [b3], [b0_6], M] := fun x hx => hsb0 x (fl_unfold x hx)
             have hcall := gen_Maker_Pick_w b0_6 a1_6 c1_6 x5.1 x24.2 (Ad b22 0) 3 ([x12.1.2.1, 10080, 10081]) _ w25 (fl [[b15], blk a0_13, [b3], M]) (hpk.fold (P := [[b0_6]])) (hf6_2.sub hsb) hf6_1 (hs22.sub hsb) hx
             refine x_call 9 #[] #[] [Vp b0_6 0, .slice (Ad b22 0) ([x12.1.2.1, 10080, 10081]).length 3] _ rfl rfl rfl rfl hcall ?_
             rintro v w27 ⟨rfl, he27, hp27_0⟩
             clear hcall hx
             refine ⟨.inr he27, ?_⟩
             have hpk2 : MS w25 ([[b0_6]] ++ [[b15], blk a0_13, [b3], M]) := hms.pick [some 3, some 0, some 1, some 2, some 4] _ rfl
             have hsb2 : ∀ x ∈ fl ([[b0_6]] ++ [[b15], blk a0_13, [b3], M]), x ∈ fl [[b15], blk a0_13, [b3], [b0_6], M] := pick_sub [some 3, some 0, some 1, some 2, some 4] _ rfl
             have hst0 := Stp.call (LS := [[b15], blk a0_13, [b3], [b0_6], M]) (res := []) (par := [[b0_6]]) (R := [[b15], blk a0_13, [b3], M]) he27 (fun b hb => hsb2 b (fl_left' (P := [[b0_6]]) b hb)) (FR.nil _) (NP.init _ _) (fun x hx => hsb2 x (fl_right' (P := [[b0_6]]) x hx))
             have hsn : ∀ x ∈ fl [[b15], blk a0_13, [b3], [b0_6], M], x ∈ fl ([] ++ ([[b0_6]] ++ [[b15], blk a0_13, [b3], M])) := pick_sub [some 1, some 2, some 3, some 0, some 4] _ rfl
             have hst := hst0.res hsn
             replace hb3 := he27.box hb3 ((MS.outs (P := [[b0_6]]) hpk2 2 rfl) _ mem1)
             replace hs_p1_2 := hs_p1_2.step hst
             replace hf6_2 := hf6_2.step hst
             replace hf13_1 := hf13_1.step hst he27 (MS.outs (P := [[b0_6]]) hpk2 1 rfl)
             replace hb15 := he27.box hb15 ((MS.outs (P := [[b0_6]]) hpk2 0 rfl) _ mem1)
             replace hs20 := hs20.step hst
             replace hs22 := hs22.step hst
             replace hms := hms.ev he27
             have hPf : ∀ b ∈ fl [[b0_6]], w.heap.size ≤ b := FR.mem (ls := [[b0_6]]) (hfr.pick [some 3] _ rfl)
             replace hev := hev.then he27 (fun b hb => .inr (hPf b hb))
             replace hf6_1 := hp27_0
             clear hpk hsb hsb0 hpk2 hsb2 hst0 hsn hst
             obtain ⟨w28, hr28, hb28, he28⟩ := store_box 0 (Vi x24.1) #[Vi x24.1, Vi x12.1.2.1, .slice a0_13 (x12.1.2.2.1).length c0_13, Vi x12.1.2.2.2.1, Vi x12.1.2.2.2.2] tcell3 hb15 rfl rfl rfl
             refine x_store w28 (xv := Vp b15 0) (yv := Vi x24.1) rfl rfl rfl rfl hr28 ?_
             refine inl1 ?_
             have hst := Stp.ev' (ls := [[b15], blk a0_13, [b3], [b0_6], M]) he28 (mem_flat 0 rfl)
             replace hb3 := he28.box hb3 (hms.apart 2 0 rfl rfl rfl _ mem1)
             replace hs_p1_2 := hs_p1_2.step hst
             replace hf6_1 := he28.box hf6_1 (hms.apart 3 0 rfl rfl rfl _ mem1)
             replace hf6_2 := hf6_2.step hst
             replace hf13_1 := hf13_1.step hst he28 (hms.apart 1 0 rfl rfl rfl)
             replace hs20 := hs20.step hst
             replace hs22 := hs22.step hst
             replace hms := hms.ev he28
             replace hev := hev.then he28 (fun b hb => .inr (hfr.at 0 rfl b hb))
             replace hb15 := hb28
             refine x_fieldAddr (xv := Vp b15 0) (Vp b15 1) rfl rfl rfl (reads_field tfld24_1 _ _) ?_
             obtain ⟨w29, hr29, hb29, he29⟩ := store_box 1 (Vi x26.1) #[Vi x24.1, Vi x26.1, .slice a0_13 (x12.1.2.2.1).length c0_13, Vi x12.1.2.2.2.1, Vi x12.1.2.2.2.2] tcell3 hb15 rfl rfl rfl
             refine x_store w29 (xv := Vp b15 1) (yv := Vi x26.1) rfl rfl rfl rfl hr29 ?_
             refine inl1 ?_
             have hst := Stp.ev' (ls := [[b15], blk a0_13, [b3], [b0_6], M]) he29 (mem_flat 0 rfl)
             replace hb3 := he29.box hb3 (hms.apart 2 0 rfl rfl rfl _ mem1)
             replace hs_p1_2 := hs_p1_2.step hst
             replace hf6_1 := he29.box hf6_1 (hms.apart 3 0 rfl rfl rfl _ mem1)
             replace hf6_2 := hf6_2.step hst
             replace hf13_1 := hf13_1.step hst he29 (hms.apart 1 0 rfl rfl rfl)
             replace hs20 := hs20.step hst
             replace hs22 := hs22.step hst
             replace hms := hms.ev he29
             replace hev := hev.then he29 (fun b hb => .inr (hfr.at 0 rfl b hb))
             replace hb15 := hb29
             refine x_end rfl ?_
             refine t_stop ?_
             have hpk : MS w29 [[b3], [b0_6], blk a0_13, [b15], M] := hms.pick [some 2, some 3, some 1, some 0, some 4] _ rfl
             have hsu : ∀ x ∈ fl [[b3], [b0_6], blk a0_13, [b15], M], x ∈ fl [[b15], blk a0_13, [b3], [b0_6], M] := pick_sub [some 2, some 3, some 1, some 0, some 4] _ rfl
             replace hs_p1_2 := hs_p1_2.sub hsu
             replace hf6_2 := hf6_2.sub hsu
             replace hf13_1 := hf13_1.sub hsu
             replace hms := hpk
             replace hfr : FR w.heap.size [[b3], [b0_6], blk a0_13, [b15]] := hfr.pick [some 2, some 3, some 1, some 0] _ rfl
             clear hpk hsu
             exact k_then ⟨(x26.2, x24.1, x26.1), ⟨rfl, rfl, rfl, rfl, rfl, trivial⟩, h, hev, hms, hfr, hs_p1_2, hb3, hf6_2, hf6_1, hf13_1, hb15⟩
           exact t_none
         refine t_alt _ rfl ?_ ?_
         · refine x_buildSlice (vs := [(0, Vi x12.1.2.1), (1, Vi 10080), (2, Vi 10081)]) #[Vi x12.1.2.1, Vi 10080, Vi 10081] 3 rfl rfl rfl (by kernel_rfl) (fun b20 w20 hq20 hb20 he20 hz20 => ?_)
           refine ⟨.inr (he20.nil), ?_⟩
           have hms0 := hms
           have hst := Stp.ext (ls := [[b15], blk a0_13, [b3], [b0_6], M]) he20
           replace hb3 := he20.box hb3 nn
           replace hs_p1_2 := hs_p1_2.step hst
           replace hf6_1 := he20.box hf6_1 nn
           replace hf6_2 := hf6_2.step hst
           replace hf13_1 := hf13_1.step hst he20 nn2
           replace hb15 := he20.box hb15 nn
           replace hms := hms.ev he20
           replace hev := hev.ext he20
           have hs20 : SlR (eInt .i64) w20 (fl [[b15], blk a0_13, [b3], [b0_6], M]) (Ad b20 0) 3 ([x12.1.2.1, 10080, 10081]) := ro_of_box hms0 hq20 hb20 rfl rfl (cells_at (cs := [Vi x12.1.2.1, Vi 10080, Vi 10081]) (CellsOf.cons (c := [Vi x12.1.2.1]) rfl (CellsOf.cons (c := [Vi 10080]) rfl (CellsOf.cons (c := [Vi 10081]) rfl CellsOf.nil))))
           clear hb20 hms0
           refine x_buildSlice (vs := [(0, Vi x12.1.1), (1, Vi (-1)), (2, Vi (IntKind.i64.wrap (x12.1.2.1 + 1)))]) #[Vi x12.1.1, Vi (-1), Vi (IntKind.i64.wrap (x12.1.2.1 + 1))] 3 rfl rfl rfl (by kernel_rfl) (fun b22 w22 hq22 hb22 he22 hz22 => ?_)
           refine ⟨.inr (he22.nil), ?_⟩
           have hms0 := hms
           have hst := Stp.ext (ls := [[b15], blk a0_13, [b3], [b0_6], M]) he22
           replace hb3 := he22.box hb3 nn
           replace hs_p1_2 := hs_p1_2.step hst
           replace hf6_1 := he22.box hf6_1 nn
           replace hf6_2 := hf6_2.step hst
           replace hf13_1 := hf13_1.step hst he22 nn2
           replace hb15 := he22.box hb15 nn
           replace hs20 := hs20.step hst
           replace hms := hms.ev he22
           replace hev := hev.ext he22
           have hs22 : SlR (eInt .i64) w22 (fl [[b15], blk a0_13, [b3], [b0_6], M]) (Ad b22 0) 3 ([x12.1.1, (-1), IntKind.i64.wrap (x12.1.2.1 + 1)]) := ro_of_box hms0 hq22 hb22 rfl rfl (cells_at (cs := [Vi x12.1.1, Vi (-1), Vi (IntKind.i64.wrap (x12.1.2.1 + 1))]) (CellsOf.cons (c := [Vi x12.1.1]) rfl (CellsOf.cons (c := [Vi (-1)]) rfl (CellsOf.cons (c := [Vi (IntKind.i64.wrap (x12.1.2.1 + 1))]) rfl CellsOf.nil))))
           clear hb22 hms0
           obtain ⟨x24, hx, h⟩ := bind_some h
           have hpk : MS w22 ([[b0_6]] ++ [[b15], blk a0_13, [b3], M]) := hms.pick [some 3, some 0, some 1, some 2, some 4] _ rfl
           have hsb0 : ∀ x ∈ fl ([[b0_6]] ++ [[b15], blk a0_13, [b3], M]), x ∈ fl [[b15], blk a0_13, [b3], [b0_6], M] := pick_sub [some 3, some 0, some 1, some 2, some 4] _ rfl
           have hsb : ∀ x ∈ fl ([[b0_6]] ++ [(fl [[b15], blk a0_13, [b3], M])]), x ∈ fl [[b15], blk a0_13, [b3], [b0_6], M] := fun x hx => hsb0 x (fl_unfold x hx)
           have hcall := gen_Maker_Pick_w b0_6 a1_6 c1_6 x5.1 x12.2 (Ad b22 0) 3 ([x12.1.1, (-1), IntKind.i64.wrap (x12.1.2.1 + 1)]) _ w22 (fl [[b15], blk a0_13, [b3], M]) (hpk.fold (P := [[b0_6]])) (hf6_2.sub hsb) hf6_1 (hs22.sub hsb) hx
           refine x_call 9 #[] #[] [Vp b0_6 0, .slice (Ad b22 0) ([x12.1.1, (-1), IntKind.i64.wrap (x12.1.2.1 + 1)]).length 3] _ rfl rfl rfl rfl hcall ?_
           rintro v w25 ⟨rfl, he25, hp25_0⟩
           clear hcall hx
           refine ⟨.inr he25, ?_⟩
           have hpk2 : MS w22 ([[b0_6]] ++ [[b15], blk a0_13, [b3], M]) := hms.pick [some 3, some 0, some 1, some 2, some 4] _ rfl
           have hsb2 : ∀ x ∈ fl ([[b0_6]] ++ [[b15], blk a0_13, [b3], M]), x ∈ fl [[b15], blk a0_13, [b3], [b0_6], M] := pick_sub [some 3, some 0, some 1, some 2, some 4] _ rfl
           have hst0 := Stp.call (LS := [[b15], blk a0_13, [b3], [b0_6], M]) (res := []) (par := [[b0_6]]) (R := [[b15], blk a0_13, [b3], M]) he25 (fun b hb => hsb2 b (fl_left' (P := [[b0_6]]) b hb)) (FR.nil _) (NP.init _ _) (fun x hx => hsb2 x (fl_right' (P := [[b0_6]]) x hx))
           have hsn : ∀ x ∈ fl [[b15], blk a0_13, [b3], [b0_6], M], x ∈ fl ([] ++ ([[b0_6]] ++ [[b15], blk a0_13, [b3], M])) := pick_sub [some 1, some 2, some 3, some 0, some 4] _ rfl
           have hst := hst0.res hsn
           replace hb3 := he25.box hb3 ((MS.outs (P := [[b0_6]]) hpk2 2 rfl) _ mem1)
           replace hs_p1_2 := hs_p1_2.step hst
           replace hf6_2 := hf6_2.step hst
           replace hf13_1 := hf13_1.step hst he25 (MS.outs (P := [[b0_6]]) hpk2 1 rfl)
           replace hb15 := he25.box hb15 ((MS.outs (P := [[b0_6]]) hpk2 0 rfl) _ mem1)
           replace hs20 := hs20.step hst
           replace hs22 := hs22.step hst
           replace hms := hms.ev he25
           have hPf : ∀ b ∈ fl [[b0_6]], w.heap.size ≤ b := FR.mem (ls := [[b0_6]]) (hfr.pick [some 3] _ rfl)
           replace hev := hev.then he25 (fun b hb => .inr (hPf b hb))
           replace hf6_1 := hp25_0
           clear hpk hsb hsb0 hpk2 hsb2 hst0 hsn hst
           refine x_fieldAddr (xv := Vp b15 0) (Vp b15 0) rfl rfl rfl (reads_field tfld24_0 _ _) ?_
           obtain ⟨x26, hx, h⟩ := bind_some h
           have hpk : MS w25 ([[b0_6]] ++ [[b15], blk a0_13, [b3], M]) := hms.pick [some 3, some 0, some 1, some 2, some 4] _ rfl
           have hsb0 : ∀ x ∈ fl ([[b0_6]] ++ [[b15], blk a0_13, [b3], M]), x ∈ fl [[b15], blk a0_13, [b3], [b0_6], M] := pick_sub [some 3, some 0, some 1, some 2, some 4] _ rfl
           have hsb : ∀ x ∈ fl ([[b0_6]] ++ [(fl [[b15], blk a0_13, [b3], M])]), x ∈ fl [[b15], blk a0_13, [b3], [b0_6], M] := fun x hx => hsb0 x (fl_unfold x hx)
           have hcall := gen_Maker_Pick_w b0_6 a1_6 c1_6 x5.1 x24.2 (Ad b20 0) 3 ([x12.1.2.1, 10080, 10081]) _ w25 (fl [[b15], blk a0_13, [b3], M]) (hpk.fold (P := [[b0_6]])) (hf6_2.sub hsb) hf6_1 (hs20.sub hsb) hx
           refine x_call 9 #[] #[] [Vp b0_6 0, .slice (Ad b20 0) ([x12.1.2.1, 10080, 10081]).length 3] _ rfl rfl rfl rfl hcall ?_
           rintro v w27 ⟨rfl, he27, hp27_0⟩
           clear hcall hx
           refine ⟨.inr he27, ?_⟩
           have hpk2 : MS w25 ([[b0_6]] ++ [[b15], blk a0_13, [b3], M]) := hms.pick [some 3, some 0, some 1, some 2, some 4] _ rfl
           have hsb2 : ∀ x ∈ fl ([[b0_6]] ++ [[b15], blk a0_13, [b3], M]), x ∈ fl [[b15], blk a0_13, [b3], [b0_6], M] := pick_sub [some 3, some 0, some 1, some 2, some 4] _ rfl
           have hst0 := Stp.call (LS := [[b15], blk a0_13, [b3], [b0_6], M]) (res := []) (par := [[b0_6]]) (R := [[b15], blk a0_13, [b3], M]) he27 (fun b hb => hsb2 b (fl_left' (P := [[b0_6]]) b hb)) (FR.nil _) (NP.init _ _) (fun x hx => hsb2 x (fl_right' (P := [[b0_6]]) x hx))
           have hsn : ∀ x ∈ fl [[b15], blk a0_13, [b3], [b0_6], M], x ∈ fl ([] ++ ([[b0_6]] ++ [[b15], blk a0_13, [b3], M])) := pick_sub [some 1, some 2, some 3, some 0, some 4] _ rfl
           have hst := hst0.res hsn
           replace hb3 := he27.box hb3 ((MS.outs (P := [[b0_6]]) hpk2 2 rfl) _ mem1)
           replace hs_p1_2 := hs_p1_2.step hst
           replace hf6_2 := hf6_2.step hst
           replace hf13_1 := hf13_1.step hst he27 (MS.outs (P := [[b0_6]]) hpk2 1 rfl)
           replace hb15 := he27.box hb15 ((MS.outs (P := [[b0_6]]) hpk2 0 rfl) _ mem1)
           replace hs20 := hs20.step hst
           replace hs22 := hs22.step hst
           replace hms := hms.ev he27
           have hPf : ∀ b ∈ fl [[b0_6]], w.heap.size ≤ b := FR.mem (ls := [[b0_6]]) (hfr.pick [some 3] _ rfl)
           replace hev := hev.then he27 (fun b hb => .inr (hPf b hb))
           replace hf6_1 := hp27_0
           clear hpk hsb hsb0 hpk2 hsb2 hst0 hsn hst
           obtain ⟨w28, hr28, hb28, he28⟩ := store_box 0 (Vi x24.1) #[Vi x24.1, Vi x12.1.2.1, .slice a0_13 (x12.1.2.2.1).length c0_13, Vi x12.1.2.2.2.1, Vi x12.1.2.2.2.2] tcell3 hb15 rfl rfl rfl
           refine x_store w28 (xv := Vp b15 0) (yv := Vi x24.1) rfl rfl rfl rfl hr28 ?_
           refine inl1 ?_
           have hst := Stp.ev' (ls := [[b15], blk a0_13, [b3], [b0_6], M]) he28 (mem_flat 0 rfl)
           replace hb3 := he28.box hb3 (hms.apart 2 0 rfl rfl rfl _ mem1)
           replace hs_p1_2 := hs_p1_2.step hst
           replace hf6_1 := he28.box hf6_1 (hms.apart 3 0 rfl rfl rfl _ mem1)
           replace hf6_2 := hf6_2.step hst
           replace hf13_1 := hf13_1.step hst he28 (hms.apart 1 0 rfl rfl rfl)
           replace hs20 := hs20.step hst
           replace hs22 := hs22.step hst
           replace hms := hms.ev he28
           replace hev := hev.then he28 (fun b hb => .inr (hfr.at 0 rfl b hb))
           replace hb15 := hb28
           refine x_fieldAddr (xv := Vp b15 0) (Vp b15 1) rfl rfl rfl (reads_field tfld24_1 _ _) ?_
           obtain ⟨w29, hr29, hb29, he29⟩ := store_box 1 (Vi x26.1) #[Vi x24.1, Vi x26.1, .slice a0_13 (x12.1.2.2.1).length c0_13, Vi x12.1.2.2.2.1, Vi x12.1.2.2.2.2] tcell3 hb15 rfl rfl rfl
           refine x_store w29 (xv := Vp b15 1) (yv := Vi x26.1) rfl rfl rfl rfl hr29 ?_
           refine inl1 ?_
           have hst := Stp.ev' (ls := [[b15], blk a0_13, [b3], [b0_6], M]) he29 (mem_flat 0 rfl)
           replace hb3 := he29.box hb3 (hms.apart 2 0 rfl rfl rfl _ mem1)
           replace hs_p1_2 := hs_p1_2.step hst
           replace hf6_1 := he29.box hf6_1 (hms.apart 3 0 rfl rfl rfl _ mem1)
           replace hf6_2 := hf6_2.step hst
           replace hf13_1 := hf13_1.step hst he29 (hms.apart 1 0 rfl rfl rfl)
           replace hs20 := hs20.step hst
           replace hs22 := hs22.step hst
           replace hms := hms.ev he29
           replace hev := hev.then he29 (fun b hb => .inr (hfr.at 0 rfl b hb))
           replace hb15 := hb29
           refine x_end rfl ?_
           refine t_stop ?_
           have hpk : MS w29 [[b3], [b0_6], blk a0_13, [b15], M] := hms.pick [some 2, some 3, some 1, some 0, some 4] _ rfl
           have hsu : ∀ x ∈ fl [[b3], [b0_6], blk a0_13, [b15], M], x ∈ fl [[b15], blk a0_13, [b3], [b0_6], M] := pick_sub [some 2, some 3, some 1, some 0, some 4] _ rfl
           replace hs_p1_2 := hs_p1_2.sub hsu
           replace hf6_2 := hf6_2.sub hsu
           replace hf13_1 := hf13_1.sub hsu
           replace hms := hpk
           replace hfr : FR w.heap.size [[b3], [b0_6], blk a0_13, [b15]] := hfr.pick [some 2, some 3, some 1, some 0] _ rfl
           clear hpk hsu
           exact k_then ⟨(x26.2, x24.1, x26.1), ⟨rfl, rfl, rfl, rfl, rfl, trivial⟩, h, hev, hms, hfr, hs_p1_2, hb3, hf6_2, hf6_1, hf13_1, hb15⟩
         exact t_none
       rintro ⟨e7_j19_1, e16_j19_0, e16_j19_1⟩ J wj19 ⟨h, hev, hms, hfr, hs_p1_2, hb3, hf6_2, hf6_1, hf13_1, hb15⟩
       refine c_sp ?_
       refine x_pure 1 [(35, Vp b0_6 0)] _ _ _ (by kernel_rfl) ?_
       refine x_buildSlice (vs := [(0, Vi 0), (1, Vi (-1)), (2, Vi 1000000), (3, Vi 1000001)]) #[Vi 0, Vi (-1), Vi 1000000, Vi 1000001] 3 rfl rfl rfl (by kernel_rfl) (fun b20 w20 hq20 hb20 he20 hz20 => ?_)
       refine inl1 ?_
       have hms0 := hms
       have hst := Stp.ext (ls := [[b3], [b0_6], blk a0_13, [b15], M]) he20
       replace hb3 := he20.box hb3 nn
       replace hs_p1_2 := hs_p1_2.step hst
       replace hf6_1 := he20.box hf6_1 nn
       replace hf6_2 := hf6_2.step hst
       replace hb15 := he20.box hb15 nn
       replace hf13_1 := hf13_1.step hst he20 nn2
       replace hms := hms.ev he20
       replace hev := hev.ext he20
       have hs20 : SlR (eInt .i64) w20 (fl [[b3], [b0_6], blk a0_13, [b15], M]) (Ad b20 0) 4 ([0, (-1), 1000000, 1000001]) := ro_of_box hms0 hq20 hb20 rfl rfl (cells_at (cs := [Vi 0, Vi (-1), Vi 1000000, Vi 1000001]) (CellsOf.cons (c := [Vi 0]) rfl (CellsOf.cons (c := [Vi (-1)]) rfl (CellsOf.cons (c := [Vi 1000000]) rfl (CellsOf.cons (c := [Vi 1000001]) rfl CellsOf.nil)))))
       clear hb20 hms0
       obtain ⟨x22, hx, h⟩ := bind_some h
       have hpk : MS w20 ([[b0_6]] ++ [[b3], blk a0_13, [b15], M]) := hms.pick [some 1, some 0, some 2, some 3, some 4] _ rfl
       have hsb0 : ∀ x ∈ fl ([[b0_6]] ++ [[b3], blk a0_13, [b15], M]), x ∈ fl [[b3], [b0_6], blk a0_13, [b15], M] := pick_sub [some 1, some 0, some 2, some 3, some 4] _ rfl
       have hsb : ∀ x ∈ fl ([[b0_6]] ++ [(fl [[b3], blk a0_13, [b15], M])]), x ∈ fl [[b3], [b0_6], blk a0_13, [b15], M] := fun x hx => hsb0 x (fl_unfold x hx)
       have hcall := gen_Maker_Pick_w b0_6 a1_6 c1_6 x5.1 e7_j19_1 (Ad b20 0) 4 ([0, (-1), 1000000, 1000001]) _ w20 (fl [[b3], blk a0_13, [b15], M]) (hpk.fold (P := [[b0_6]])) (hf6_2.sub hsb) hf6_1 (hs20.sub hsb) hx
       refine x_call 9 #[] #[] [Vp b0_6 0, .slice (Ad b20 0) ([0, (-1), 1000000, 1000001]).length 4] _ rfl rfl rfl rfl hcall ?_
       rintro v w23 ⟨rfl, he23, hp23_0⟩
       clear hcall hx
       refine inl1 ?_
       have hpk2 : MS w20 ([[b0_6]] ++ [[b3], blk a0_13, [b15], M]) := hms.pick [some 1, some 0, some 2, some 3, some 4] _ rfl
       have hsb2 : ∀ x ∈ fl ([[b0_6]] ++ [[b3], blk a0_13, [b15], M]), x ∈ fl [[b3], [b0_6], blk a0_13, [b15], M] := pick_sub [some 1, some 0, some 2, some 3, some 4] _ rfl
       have hst0 := Stp.call (LS := [[b3], [b0_6], blk a0_13, [b15], M]) (res := []) (par := [[b0_6]]) (R := [[b3], blk a0_13, [b15], M]) he23 (fun b hb => hsb2 b (fl_left' (P := [[b0_6]]) b hb)) (FR.nil _) (NP.init _ _) (fun x hx => hsb2 x (fl_right' (P := [[b0_6]]) x hx))
       have hsn : ∀ x ∈ fl [[b3], [b0_6], blk a0_13, [b15], M], x ∈ fl ([] ++ ([[b0_6]] ++ [[b3], blk a0_13, [b15], M])) := pick_sub [some 1, some 0, some 2, some 3, some 4] _ rfl
       have hst := hst0.res hsn
       replace hb3 := he23.box hb3 ((MS.outs (P := [[b0_6]]) hpk2 0 rfl) _ mem1)
       replace hs_p1_2 := hs_p1_2.step hst
       replace hf6_2 := hf6_2.step hst
       replace hb15 := he23.box hb15 ((MS.outs (P := [[b0_6]]) hpk2 2 rfl) _ mem1)
       replace hf13_1 := hf13_1.step hst he23 (MS.outs (P := [[b0_6]]) hpk2 1 rfl)
       replace hs20 := hs20.step hst
       replace hms := hms.ev he23
       have hPf : ∀ b ∈ fl [[b0_6]], w.heap.size ≤ b := FR.mem (ls := [[b0_6]]) (hfr.pick [some 1] _ rfl)
       replace hev := hev.then he23 (fun b hb => .inr (hPf b hb))
       replace hf6_1 := hp23_0
       clear hpk hsb hsb0 hpk2 hsb2 hst0 hsn hst
       refine x_pure 1 [(38, Vp b0_6 0)] _ _ _ (by kernel_rfl) ?_
       refine x_buildSlice (vs := [(0, Vi 0), (1, Vi (-1)), (2, Vi 1000000), (3, Vi 1000001)]) #[Vi 0, Vi (-1), Vi 1000000, Vi 1000001] 3 rfl rfl rfl (by kernel_rfl) (fun b24 w24 hq24 hb24 he24 hz24 => ?_)
       refine inl1 ?_
       have hms0 := hms
       have hst := Stp.ext (ls := [[b3], [b0_6], blk a0_13, [b15], M]) he24
       replace hb3 := he24.box hb3 nn
       replace hs_p1_2 := hs_p1_2.step hst
       replace hf6_1 := he24.box hf6_1 nn
       replace hf6_2 := hf6_2.step hst
       replace hb15 := he24.box hb15 nn
       replace hf13_1 := hf13_1.step hst he24 nn2
       replace hs20 := hs20.step hst
       replace hms := hms.ev he24
       replace hev := hev.ext he24
       have hs24 : SlR (eInt .i64) w24 (fl [[b3], [b0_6], blk a0_13, [b15], M]) (Ad b24 0) 4 ([0, (-1), 1000000, 1000001]) := ro_of_box hms0 hq24 hb24 rfl rfl (cells_at (cs := [Vi 0, Vi (-1), Vi 1000000, Vi 1000001]) (CellsOf.cons (c := [Vi 0]) rfl (CellsOf.cons (c := [Vi (-1)]) rfl (CellsOf.cons (c := [Vi 1000000]) rfl (CellsOf.cons (c := [Vi 1000001]) rfl CellsOf.nil)))))
       clear hb24 hms0
       obtain ⟨x26, hx, h⟩ := bind_some h
       have hpk : MS w24 ([[b0_6]] ++ [[b3], blk a0_13, [b15], M]) := hms.pick [some 1, some 0, some 2, some 3, some 4] _ rfl
       have hsb0 : ∀ x ∈ fl ([[b0_6]] ++ [[b3], blk a0_13, [b15], M]), x ∈ fl [[b3], [b0_6], blk a0_13, [b15], M] := pick_sub [some 1, some 0, some 2, some 3, some 4] _ rfl
       have hsb : ∀ x ∈ fl ([[b0_6]] ++ [(fl [[b3], blk a0_13, [b15], M])]), x ∈ fl [[b3], [b0_6], blk a0_13, [b15], M] := fun x hx => hsb0 x (fl_unfold x hx)
       have hcall := gen_Maker_Pick_w b0_6 a1_6 c1_6 x5.1 x22.2 (Ad b24 0) 4 ([0, (-1), 1000000, 1000001]) _ w24 (fl [[b3], blk a0_13, [b15], M]) (hpk.fold (P := [[b0_6]])) (hf6_2.sub hsb) hf6_1 (hs24.sub hsb) hx
       refine x_call 9 #[] #[] [Vp b0_6 0, .slice (Ad b24 0) ([0, (-1), 1000000, 1000001]).length 4] _ rfl rfl rfl rfl hcall ?_
       rintro v w27 ⟨rfl, he27, hp27_0⟩
       clear hcall hx
       refine inl1 ?_
       have hpk2 : MS w24 ([[b0_6]] ++ [[b3], blk a0_13, [b15], M]) := hms.pick [some 1, some 0, some 2, some 3, some 4] _ rfl
       have hsb2 : ∀ x ∈ fl ([[b0_6]] ++ [[b3], blk a0_13, [b15], M]), x ∈ fl [[b3], [b0_6], blk a0_13, [b15], M] := pick_sub [some 1, some 0, some 2, some 3, some 4] _ rfl
       have hst0 := Stp.call (LS := [[b3], [b0_6], blk a0_13, [b15], M]) (res := []) (par := [[b0_6]]) (R := [[b3], blk a0_13, [b15], M]) he27 (fun b hb => hsb2 b (fl_left' (P := [[b0_6]]) b hb)) (FR.nil _) (NP.init _ _) (fun x hx => hsb2 x (fl_right' (P := [[b0_6]]) x hx))
       have hsn : ∀ x ∈ fl [[b3], [b0_6], blk a0_13, [b15], M], x ∈ fl ([] ++ ([[b0_6]] ++ [[b3], blk a0_13, [b15], M])) := pick_sub [some 1, some 0, some 2, some 3, some 4] _ rfl
       have hst := hst0.res hsn
       replace hb3 := he27.box hb3 ((MS.outs (P := [[b0_6]]) hpk2 0 rfl) _ mem1)
       replace hs_p1_2 := hs_p1_2.step hst
       replace hf6_2 := hf6_2.step hst
       replace hb15 := he27.box hb15 ((MS.outs (P := [[b0_6]]) hpk2 2 rfl) _ mem1)
       replace hf13_1 := hf13_1.step hst he27 (MS.outs (P := [[b0_6]]) hpk2 1 rfl)
       replace hs20 := hs20.step hst
       replace hs24 := hs24.step hst
       replace hms := hms.ev he27
       have hPf : ∀ b ∈ fl [[b0_6]], w.heap.size ≤ b := FR.mem (ls := [[b0_6]]) (hfr.pick [some 1] _ rfl)
       replace hev := hev.then he27 (fun b hb => .inr (hPf b hb))
       replace hf6_1 := hp27_0
       clear hpk hsb hsb0 hpk2 hsb2 hst0 hsn hst
       refine x_fieldAddr (xv := Vp b15 0) (Vp b15 3) rfl rfl rfl (reads_field tfld24_3 _ _) ?_
       obtain ⟨w28, hr28, hb28, he28⟩ := store_box 3 (Vi x22.1) #[Vi e16_j19_0, Vi e16_j19_1, .slice a0_13 (x12.1.2.2.1).length c0_13, Vi x22.1, Vi x12.1.2.2.2.2] tcell3 hb15 rfl rfl rfl
       refine x_store w28 (xv := Vp b15 3) (yv := Vi x22.1) rfl rfl rfl rfl hr28 ?_
       refine inl1 ?_
       have hst := Stp.ev' (ls := [[b3], [b0_6], blk a0_13, [b15], M]) he28 (mem_flat 3 rfl)
       replace hb3 := he28.box hb3 (hms.apart 0 3 rfl rfl rfl _ mem1)
       replace hs_p1_2 := hs_p1_2.step hst
       replace hf6_1 := he28.box hf6_1 (hms.apart 1 3 rfl rfl rfl _ mem1)
       replace hf6_2 := hf6_2.step hst
       replace hf13_1 := hf13_1.step hst he28 (hms.apart 2 3 rfl rfl rfl)
       replace hs20 := hs20.step hst
       replace hs24 := hs24.step hst
       replace hms := hms.ev he28
       replace hev := hev.then he28 (fun b hb => .inr (hfr.at 3 rfl b hb))
       replace hb15 := hb28
       refine x_fieldAddr (xv := Vp b15 0) (Vp b15 4) rfl rfl rfl (reads_field tfld24_4 _ _) ?_
       obtain ⟨w29, hr29, hb29, he29⟩ := store_box 4 (Vi x26.1) #[Vi e16_j19_0, Vi e16_j19_1, .slice a0_13 (x12.1.2.2.1).length c0_13, Vi x22.1, Vi x26.1] tcell3 hb15 rfl rfl rfl
       refine x_store w29 (xv := Vp b15 4) (yv := Vi x26.1) rfl rfl rfl rfl hr29 ?_
       refine inl1 ?_
       have hst := Stp.ev' (ls := [[b3], [b0_6], blk a0_13, [b15], M]) he29 (mem_flat 3 rfl)
       replace hb3 := he29.box hb3 (hms.apart 0 3 rfl rfl rfl _ mem1)
       replace hs_p1_2 := hs_p1_2.step hst
       replace hf6_1 := he29.box hf6_1 (hms.apart 1 3 rfl rfl rfl _ mem1)
       replace hf6_2 := hf6_2.step hst
       replace hf13_1 := hf13_1.step hst he29 (hms.apart 2 3 rfl rfl rfl)
       replace hs20 := hs20.step hst
       replace hs24 := hs24.step hst
       replace hms := hms.ev he29
       replace hev := hev.then he29 (fun b hb => .inr (hfr.at 3 rfl b hb))
       replace hb15 := hb29
       refine x_ek ?_
       refine c_norm [(2, Vi p2), (4, Vp b3 0), (7, Vp b0_6 0), (8, Vi i_s8_l10), (9, Vp b15 0)] ⟨rfl, rfl, rfl, rfl, rfl, trivial⟩ (fun J => ?_)
       refine c_drawn [b0_6] [(0, false), (1, false), (2, false), (3, false), (4, false), (5, false), (6, true), (7, true), (8, true)] _ (by kernel_rfl) rfl ?_
       have hst := Stp.ext (ls := [[b3], [b0_6], blk a0_13, [b15], M]) (Ev.drew w29)
       replace hb3 := (Ev.drew w29).box hb3 nn
       replace hs_p1_2 := hs_p1_2.step hst
       replace hf6_1 := (Ev.drew w29).box hf6_1 nn
       replace hf6_2 := hf6_2.step hst
       replace hb15 := (Ev.drew w29).box hb15 nn
       replace hf13_1 := hf13_1.step hst (Ev.drew w29) nn2
       replace hms := hms.ev (Ev.drew w29)
       replace hev := hev.ext (Ev.drew w29)
       refine x_fieldAddr (xv := Vp b15 0) (Vp b15 2) rfl rfl rfl (reads_field tfld24_2 _ _) ?_
       refine x_load (xv := Vp b15 2) (.slice a0_13 (x12.1.2.2.1).length c0_13) rfl rfl rfl (reads_box tcell22 hb15 ((hms.apart 3 1 rfl rfl rfl) _ mem1) 2 _ rfl) ?_
       refine x_pure 1 [(45, Vp b0_6 0)] _ _ _ (by kernel_rfl) ?_
       refine x_buildSlice (vs := [(0, Vi 0), (1, Vi (-1)), (2, Vi 10080), (3, Vi 10081)]) #[Vi 0, Vi (-1), Vi 10080, Vi 10081] 3 rfl rfl rfl (by kernel_rfl) (fun b30 w30 hq30 hb30 he30 hz30 => ?_)
       refine ⟨.inr (he30.nil), ?_⟩
       have hms0 := hms
       have hst := Stp.ext (ls := [[b3], [b0_6], blk a0_13, [b15], M]) he30
       replace hb3 := he30.box hb3 nn
       replace hs_p1_2 := hs_p1_2.step hst
       replace hf6_1 := he30.box hf6_1 nn
       replace hf6_2 := hf6_2.step hst
       replace hb15 := he30.box hb15 nn
       replace hf13_1 := hf13_1.step hst he30 nn2
       replace hms := hms.ev he30
       replace hev := hev.ext he30
       have hs30 : SlR (eInt .i64) w30 (fl [[b3], [b0_6], blk a0_13, [b15], M]) (Ad b30 0) 4 ([0, (-1), 10080, 10081]) := ro_of_box hms0 hq30 hb30 rfl rfl (cells_at (cs := [Vi 0, Vi (-1), Vi 10080, Vi 10081]) (CellsOf.cons (c := [Vi 0]) rfl (CellsOf.cons (c := [Vi (-1)]) rfl (CellsOf.cons (c := [Vi 10080]) rfl (CellsOf.cons (c := [Vi 10081]) rfl CellsOf.nil)))))
       clear hb30 hms0
       obtain ⟨x32, hx, h⟩ := bind_some h
       have hpk : MS w30 ([[b0_6]] ++ [[b3], blk a0_13, [b15], M]) := hms.pick [some 1, some 0, some 2, some 3, some 4] _ rfl
       have hsb0 : ∀ x ∈ fl ([[b0_6]] ++ [[b3], blk a0_13, [b15], M]), x ∈ fl [[b3], [b0_6], blk a0_13, [b15], M] := pick_sub [some 1, some 0, some 2, some 3, some 4] _ rfl
       have hsb : ∀ x ∈ fl ([[b0_6]] ++ [(fl [[b3], blk a0_13, [b15], M])]), x ∈ fl [[b3], [b0_6], blk a0_13, [b15], M] := fun x hx => hsb0 x (fl_unfold x hx)
       have hcall := gen_Maker_Pick_w b0_6 a1_6 c1_6 x5.1 x26.2 (Ad b30 0) 4 ([0, (-1), 10080, 10081]) _ w30 (fl [[b3], blk a0_13, [b15], M]) (hpk.fold (P := [[b0_6]])) (hf6_2.sub hsb) hf6_1 (hs30.sub hsb) hx
       refine x_call 9 #[] #[] [Vp b0_6 0, .slice (Ad b30 0) ([0, (-1), 10080, 10081]).length 4] _ rfl rfl rfl rfl hcall ?_
       rintro v w33 ⟨rfl, he33, hp33_0⟩
       clear hcall hx
       refine ⟨.inr he33, ?_⟩
       have hpk2 : MS w30 ([[b0_6]] ++ [[b3], blk a0_13, [b15], M]) := hms.pick [some 1, some 0, some 2, some 3, some 4] _ rfl
       have hsb2 : ∀ x ∈ fl ([[b0_6]] ++ [[b3], blk a0_13, [b15], M]), x ∈ fl [[b3], [b0_6], blk a0_13, [b15], M] := pick_sub [some 1, some 0, some 2, some 3, some 4] _ rfl
       have hst0 := Stp.call (LS := [[b3], [b0_6], blk a0_13, [b15], M]) (res := []) (par := [[b0_6]]) (R := [[b3], blk a0_13, [b15], M]) he33 (fun b hb => hsb2 b (fl_left' (P := [[b0_6]]) b hb)) (FR.nil _) (NP.init _ _) (fun x hx => hsb2 x (fl_right' (P := [[b0_6]]) x hx))
       have hsn : ∀ x ∈ fl [[b3], [b0_6], blk a0_13, [b15], M], x ∈ fl ([] ++ ([[b0_6]] ++ [[b3], blk a0_13, [b15], M])) := pick_sub [some 1, some 0, some 2, some 3, some 4] _ rfl
       have hst := hst0.res hsn
       replace hb3 := he33.box hb3 ((MS.outs (P := [[b0_6]]) hpk2 0 rfl) _ mem1)
       replace hs_p1_2 := hs_p1_2.step hst
       replace hf6_2 := hf6_2.step hst
       replace hb15 := he33.box hb15 ((MS.outs (P := [[b0_6]]) hpk2 2 rfl) _ mem1)
       replace hf13_1 := hf13_1.step hst he33 (MS.outs (P := [[b0_6]]) hpk2 1 rfl)
       replace hs30 := hs30.step hst
       replace hms := hms.ev he33
       have hPf : ∀ b ∈ fl [[b0_6]], w.heap.size ≤ b := FR.mem (ls := [[b0_6]]) (hfr.pick [some 1] _ rfl)
       replace hev := hev.then he33 (fun b hb => .inr (hPf b hb))
       replace hf6_1 := hp33_0
       clear hpk hsb hsb0 hpk2 hsb2 hst0 hsn hst
       refine x_buildSlice (vs := [(0, Vi x32.1)]) #[Vi x32.1] 3 rfl rfl rfl (by kernel_rfl) (fun b34 w34 hq34 hb34 he34 hz34 => ?_)
       refine ⟨.inr (he34.nil), ?_⟩
       have hms0 := hms
       have hst := Stp.ext (ls := [[b3], [b0_6], blk a0_13, [b15], M]) he34
       replace hb3 := he34.box hb3 nn
       replace hs_p1_2 := hs_p1_2.step hst
       replace hf6_1 := he34.box hf6_1 nn
       replace hf6_2 := hf6_2.step hst
       replace hb15 := he34.box hb15 nn
       replace hf13_1 := hf13_1.step hst he34 nn2
       replace hs30 := hs30.step hst
       replace hms := hms.ev he34
       replace hev := hev.ext he34
       have hs34 : SlR (eInt .i64) w34 (fl [[b3], [b0_6], blk a0_13, [b15], M]) (Ad b34 0) 1 ([x32.1]) := ro_of_box hms0 hq34 hb34 rfl rfl (cells_at (cs := [Vi x32.1]) (CellsOf.cons (c := [Vi x32.1]) rfl CellsOf.nil))
       clear hb34 hms0
       have hg := guard_l h
       replace h := guard_r h
       obtain ⟨a36, c36, w36, hr36, he36, hn36, hm36, hw36⟩ := own_appendN tel22 22 hf13_1 (mem_flat 2 rfl) hs34 hg
       refine x_builtin (vs := [.slice a0_13 (x12.1.2.2.1).length c0_13, .slice (Ad b34 0) ([x32.1]).length 1]) _ w36 rfl rfl rfl rfl (run_value _ _ _ _ hr36) ?_
       refine inl1 ?_
       have hst : Stp (fl [[b3], [b0_6], blk a0_13, [b15], M]) w34 (fl [[b3], [b0_6], blk a36, [b15], M]) w36 := Stp.upd 2 he36 rfl (fun b hb => (hn36 b hb).1)
       replace hb3 := he36.box hb3 (hms.apart 0 2 rfl rfl rfl _ mem1)
       replace hs_p1_2 := hs_p1_2.step hst
       replace hf6_1 := he36.box hf6_1 (hms.apart 1 2 rfl rfl rfl _ mem1)
       replace hf6_2 := hf6_2.step hst
       replace hb15 := he36.box hb15 (hms.apart 3 2 rfl rfl rfl _ mem1)
       replace hs30 := hs30.step hst
       replace hs34 := hs34.step hst
       replace hms : MS w36 [[b3], [b0_6], blk a36, [b15], M] := hms.upd 2 he36 rfl hn36
       have hfr2 : FR w.heap.size [[b3], [b0_6], blk a36, [b15]] := hfr.upd 2 rfl hev.size (fun b hb => (hn36 b hb).1)
       replace hev := hev.then he36 (fun b hb => .inr (hfr.at 2 rfl b hb))
       replace hfr := hfr2
       clear hfr2
       replace hf13_1 := hw36 (fl [[b3], [b0_6], blk a36, [b15], M]) hst.new
       clear hw36
       refine x_fieldAddr (xv := Vp b15 0) (Vp b15 2) rfl rfl rfl (reads_field tfld24_2 _ _) ?_
       obtain ⟨w37, hr37, hb37, he37⟩ := store_box 2 (.slice a36 ((x12.1.2.2.1 ++ [x32.1])).length c36) #[Vi e16_j19_0, Vi e16_j19_1, .slice a36 ((x12.1.2.2.1 ++ [x32.1])).length c36, Vi x22.1, Vi x26.1] tcell22 hb15 rfl rfl rfl
       refine x_store w37 (xv := Vp b15 2) (yv := .slice a36 ((x12.1.2.2.1 ++ [x32.1])).length c36) rfl rfl rfl rfl hr37 ?_
       refine inl1 ?_
       have hst := Stp.ev' (ls := [[b3], [b0_6], blk a36, [b15], M]) he37 (mem_flat 3 rfl)
       replace hb3 := he37.box hb3 (hms.apart 0 3 rfl rfl rfl _ mem1)
       replace hs_p1_2 := hs_p1_2.step hst
       replace hf6_1 := he37.box hf6_1 (hms.apart 1 3 rfl rfl rfl _ mem1)
       replace hf6_2 := hf6_2.step hst
       replace hf13_1 := hf13_1.step hst he37 (hms.apart 2 3 rfl rfl rfl)
       replace hs30 := hs30.step hst
       replace hs34 := hs34.step hst
       replace hms := hms.ev he37
       replace hev := hev.then he37 (fun b hb => .inr (hfr.at 3 rfl b hb))
       replace hb15 := hb37
       refine x_end rfl ?_
       exact k_then ⟨(x32.2, e16_j19_0, e16_j19_1, (x12.1.2.2.1 ++ [x32.1]), x22.1, x26.1, a36, c36), ⟨rfl, rfl, rfl, rfl, rfl, trivial⟩, h, hev, hms, hfr, hs_p1_2, hb3, hf6_2, hf6_1, hf13_1, hb15⟩
     replace h := ite_f hb h
     refine c_skip ?_
     have hpk : MS w17 [[b3], [b0_6], blk a0_13, [b15], M] := hms.pick [some 2, some 3, some 1, some 0, some 4] _ rfl
     have hsu : ∀ x ∈ fl [[b3], [b0_6], blk a0_13, [b15], M], x ∈ fl [[b15], blk a0_13, [b3], [b0_6], M] := pick_sub [some 2, some 3, some 1, some 0, some 4] _ rfl
     replace hs_p1_2 := hs_p1_2.sub hsu
     replace hf6_2 := hf6_2.sub hsu
     replace hf13_1 := hf13_1.sub hsu
     replace hms := hpk
     replace hfr : FR w.heap.size [[b3], [b0_6], blk a0_13, [b15]] := hfr.pick [some 2, some 3, some 1, some 0] _ rfl
     clear hpk hsu
     exact k_then ⟨(x12.2, x12.1.1, x12.1.2.1, x12.1.2.2.1, x12.1.2.2.2.1, x12.1.2.2.2.2, a0_13, c0_13), ⟨rfl, rfl, rfl, rfl, rfl, trivial⟩, h, hev, hms, hfr, hs_p1_2, hb3, hf6_2, hf6_1, hf13_1, hb15⟩
   rintro ⟨e7_j18_1, e16_j18_0, e16_j18_1, d14_j18, e16_j18_3, e16_j18_4, a14_j18, c14_j18⟩ J wj18 ⟨h, hev, hms, hfr, hs_p1_2, hb3, hf6_2, hf6_1, hf13_1, hb15⟩
   refine c_seq ?_
   refine c_drawn [b0_6] [(0, false), (1, false), (2, false), (3, false), (4, true), (5, false), (6, true), (7, true), (8, true), (9, true), (10, true), (11, true), (12, false), (13, true), (14, true)] _ (by kernel_rfl) rfl ?_
   have hst := Stp.ext (ls := [[b3], [b0_6], blk a14_j18, [b15], M]) (Ev.drew wj18)
   replace hb3 := (Ev.drew wj18).box hb3 nn
   replace hs_p1_2 := hs_p1_2.step hst
   replace hf6_1 := (Ev.drew wj18).box hf6_1 nn
   replace hf6_2 := hf6_2.step hst
   replace hb15 := (Ev.drew wj18).box hb15 nn
   replace hf13_1 := hf13_1.step hst (Ev.drew wj18) nn2
   replace hms := hms.ev (Ev.drew wj18)
   replace hev := hev.ext (Ev.drew wj18)
   refine x_load (xv := Vp b15 0) (.agg #[Vi e16_j18_0, Vi e16_j18_1, .slice a14_j18 (d14_j18).length c14_j18, Vi e16_j18_3, Vi e16_j18_4]) rfl rfl rfl (reads_boxagg 0 [Vi e16_j18_0, Vi e16_j18_1, .slice a14_j18 (d14_j18).length c14_j18, Vi e16_j18_3, Vi e16_j18_4] tagg24 hb15 ((hms.apart 3 1 rfl rfl rfl) _ mem1) rfl) ?_
   refine x_fieldAddr (xv := Vp b15 0) (Vp b15 0) rfl rfl rfl (reads_field tfld24_0 _ _) ?_
   refine x_load (xv := Vp b15 0) (Vi e16_j18_0) rfl rfl rfl (reads_box tcell3 hb15 ((hms.apart 3 1 rfl rfl rfl) _ mem1) 0 _ rfl) ?_
   refine x_pure 2 [(54, Vi (IntKind.i64.wrap (e16_j18_0 - 1))), (55, Vp b0_6 0)] _ _ _ (by kernel_rfl) ?_
   obtain ⟨x38, hx, h⟩ := bind_some h
   have hpk : MS (wj18).drew ([[b0_6]] ++ [[b3], blk a14_j18, [b15], M]) := hms.pick [some 1, some 0, some 2, some 3, some 4] _ rfl
   have hsb0 : ∀ x ∈ fl ([[b0_6]] ++ [[b3], blk a14_j18, [b15], M]), x ∈ fl [[b3], [b0_6], blk a14_j18, [b15], M] := pick_sub [some 1, some 0, some 2, some 3, some 4] _ rfl
   have hsb : ∀ x ∈ fl ([[b0_6]] ++ [(fl [[b3], blk a14_j18, [b15], M])]), x ∈ fl [[b3], [b0_6], blk a14_j18, [b15], M] := fun x hx => hsb0 x (fl_unfold x hx)
   have hcall := gen_Maker_Next_w b0_6 a1_6 c1_6 x5.1 e7_j18_1 70 _ (wj18).drew (fl [[b3], blk a14_j18, [b15], M]) (hpk.fold (P := [[b0_6]])) (hf6_2.sub hsb) hf6_1 hx
   refine x_call 11 #[] #[] [Vp b0_6 0, Vi 70] _ rfl rfl rfl rfl hcall ?_
   rintro v w39 ⟨rfl, he39, hp39_0⟩
   clear hcall hx
   refine ⟨.inr he39, ?_⟩
   have hpk2 : MS (wj18).drew ([[b0_6]] ++ [[b3], blk a14_j18, [b15], M]) := hms.pick [some 1, some 0, some 2, some 3, some 4] _ rfl
   have hsb2 : ∀ x ∈ fl ([[b0_6]] ++ [[b3], blk a14_j18, [b15], M]), x ∈ fl [[b3], [b0_6], blk a14_j18, [b15], M] := pick_sub [some 1, some 0, some 2, some 3, some 4] _ rfl
   have hst0 := Stp.call (LS := [[b3], [b0_6], blk a14_j18, [b15], M]) (res := []) (par := [[b0_6]]) (R := [[b3], blk a14_j18, [b15], M]) he39 (fun b hb => hsb2 b (fl_left' (P := [[b0_6]]) b hb)) (FR.nil _) (NP.init _ _) (fun x hx => hsb2 x (fl_right' (P := [[b0_6]]) x hx))
   have hsn : ∀ x ∈ fl [[b3], [b0_6], blk a14_j18, [b15], M], x ∈ fl ([] ++ ([[b0_6]] ++ [[b3], blk a14_j18, [b15], M])) := pick_sub [some 1, some 0, some 2, some 3, some 4] _ rfl
   have hst := hst0.res hsn
   replace hb3 := he39.box hb3 ((MS.outs (P := [[b0_6]]) hpk2 0 rfl) _ mem1)
   replace hs_p1_2 := hs_p1_2.step hst
   replace hf6_2 := hf6_2.step hst
   replace hb15 := he39.box hb15 ((MS.outs (P := [[b0_6]]) hpk2 2 rfl) _ mem1)
   replace hf13_1 := hf13_1.step hst he39 (MS.outs (P := [[b0_6]]) hpk2 1 rfl)
   replace hms := hms.ev he39
   have hPf : ∀ b ∈ fl [[b0_6]], w.heap.size ≤ b := FR.mem (ls := [[b0_6]]) (hfr.pick [some 1] _ rfl)
   replace hev := hev.then he39 (fun b hb => .inr (hPf b hb))
   replace hf6_1 := hp39_0
   clear hpk hsb hsb0 hpk2 hsb2 hst0 hsn hst
   refine x_pure 1 [(57, Vi (IntKind.i64.wrap ((IntKind.i64.wrap (e16_j18_0 - 1)) + x38.1)))] _ _ _ (by kernel_rfl) ?_
   obtain ⟨x40, hx, h⟩ := bind_some h
   have hpk : MS w39 ([] ++ [[b3], [b0_6], [b15], M]) := hms.pick [some 0, some 1, some 3, some 4] _ rfl
   have hsb0 : ∀ x ∈ fl ([] ++ [[b3], [b0_6], [b15], M]), x ∈ fl [[b3], [b0_6], blk a14_j18, [b15], M] := pick_sub [some 0, some 1, some 3, some 4] _ rfl
   have hsb : ∀ x ∈ fl ([] ++ [(fl [[b3], [b0_6], [b15], M])]), x ∈ fl [[b3], [b0_6], blk a14_j18, [b15], M] := fun x hx => hsb0 x (fl_unfold x hx)
   have hcall := law41_exact_w e16_j18_0 e16_j18_1 a14_j18 c14_j18 d14_j18 e16_j18_3 e16_j18_4 (IntKind.i64.wrap ((IntKind.i64.wrap (e16_j18_0 - 1)) + x38.1)) _ w39 (fl [[b3], [b0_6], [b15], M]) (MS.fold (P := []) hpk) (hf13_1.ro hsb (fun b hb hb2 => pick_out hms 2 rfl [some 0, some 1, some 3, some 4] ([] ++ [[b3], [b0_6], [b15], M]) rfl rfl b hb (fl_unfold b hb2))) hx
   refine x_call 10 #[] #[] [.agg #[Vi e16_j18_0, Vi e16_j18_1, .slice a14_j18 (d14_j18).length c14_j18, Vi e16_j18_3, Vi e16_j18_4], Vi (IntKind.i64.wrap ((IntKind.i64.wrap (e16_j18_0 - 1)) + x38.1))] _ rfl rfl rfl rfl hcall ?_
   rintro v w41 ⟨rfl, he41⟩
   clear hcall hx
   refine inl1 ?_
   have hst := Stp.ext (ls := [[b3], [b0_6], blk a14_j18, [b15], M]) he41
   replace hb3 := he41.box hb3 nn
   replace hs_p1_2 := hs_p1_2.step hst
   replace hf6_1 := he41.box hf6_1 nn
   replace hf6_2 := hf6_2.step hst
   replace hb15 := he41.box hb15 nn
   replace hf13_1 := hf13_1.step hst he41 nn2
   replace hms := hms.ev he41
   replace hev := hev.ext he41
   clear hpk hsb hsb0
   refine x_pure 2 [(59, .bool (!x40)), (60, .bool (!x40))] _ _ _ (by kernel_rfl) ?_
   refine x_split 60 (!x40) rfl (fun hb => ?_) (fun hb => ?_)
   · replace h := ite_t hb h
     refine x_pure 5 [(61, undef), (62, undef), (63, undef), (64, undef), (65, .bool true)] _ _ _ (by kernel_rfl) ?_
     refine x_ek ?_
     refine c_norm [(2, Vi p2), (4, Vp b3 0), (7, Vp b0_6 0), (8, Vi i_s8_l10), (65, .bool true)] ⟨rfl, rfl, rfl, rfl, rfl, trivial⟩ (fun J => ?_)
     refine c_true rfl ?_
     refine c_sp ?_
     refine x_pure 1 [(6, .bool false)] _ _ _ (by kernel_rfl) ?_
     refine x_ek ?_
     refine c_ret ?_
     refine k_block_ret ?_
     refine k_then_ret ?_
     have hx := some_inj h
     subst hx
     have hy := some_inj hn10
     subst hy
     replace h := h10
     refine k_then_ret ?_
     refine k_block_ret ?_
     refine k_then_ret ?_
     refine r_ret (r_vals [.bool false] ⟨rfl, trivial⟩ ?_)
     have hx := some_inj h
     subst hx
     have hmr : MS w41 [M] := hms.pick [some 4] _ rfl
     have hsu : ∀ x ∈ fl [M], x ∈ fl [[b3], [b0_6], blk a14_j18, [b15], M] := pick_sub [some 4] _ rfl
     exact ⟨rfl, hev⟩
   replace h := ite_f hb h
   refine x_load (xv := Vp b15 0) (.agg #[Vi e16_j18_0, Vi e16_j18_1, .slice a14_j18 (d14_j18).length c14_j18, Vi e16_j18_3, Vi e16_j18_4]) rfl rfl rfl (reads_boxagg 0 [Vi e16_j18_0, Vi e16_j18_1, .slice a14_j18 (d14_j18).length c14_j18, Vi e16_j18_3, Vi e16_j18_4] tagg24 hb15 nn rfl) ?_
   refine x_pure 1 [(62, Vi p2)] _ _ _ (by kernel_rfl) ?_
   obtain ⟨x42, hx, h⟩ := bind_some h
   have hpk : MS w41 ([] ++ [[b3], [b0_6], [b15], M]) := hms.pick [some 0, some 1, some 3, some 4] _ rfl
   have hsb0 : ∀ x ∈ fl ([] ++ [[b3], [b0_6], [b15], M]), x ∈ fl [[b3], [b0_6], blk a14_j18, [b15], M] := pick_sub [some 0, some 1, some 3, some 4] _ rfl
   have hsb : ∀ x ∈ fl ([] ++ [(fl [[b3], [b0_6], [b15], M])]), x ∈ fl [[b3], [b0_6], blk a14_j18, [b15], M] := fun x hx => hsb0 x (fl_unfold x hx)
   have hcall := law41_exact_w e16_j18_0 e16_j18_1 a14_j18 c14_j18 d14_j18 e16_j18_3 e16_j18_4 p2 _ w41 (fl [[b3], [b0_6], [b15], M]) (MS.fold (P := []) hpk) (hf13_1.ro hsb (fun b hb hb2 => pick_out hms 2 rfl [some 0, some 1, some 3, some 4] ([] ++ [[b3], [b0_6], [b15], M]) rfl rfl b hb (fl_unfold b hb2))) hx
   refine x_call 10 #[] #[] [.agg #[Vi e16_j18_0, Vi e16_j18_1, .slice a14_j18 (d14_j18).length c14_j18, Vi e16_j18_3, Vi e16_j18_4], Vi p2] _ rfl rfl rfl rfl hcall ?_
   rintro v w43 ⟨rfl, he43⟩
   clear hcall hx
   refine ⟨.inr (he43.nil), ?_⟩
   have hst := Stp.ext (ls := [[b3], [b0_6], blk a14_j18, [b15], M]) he43
   replace hb3 := he43.box hb3 nn
   replace hs_p1_2 := hs_p1_2.step hst
   replace hf6_1 := he43.box hf6_1 nn
   replace hf6_2 := hf6_2.step hst
   replace hb15 := he43.box hb15 nn
   replace hf13_1 := hf13_1.step hst he43 nn2
   replace hms := hms.ev he43
   replace hev := hev.ext he43
   clear hpk hsb hsb0
   refine x_pure 2 [(64, .bool (!x42)), (65, .bool (!x42))] _ _ _ (by kernel_rfl) ?_
   refine x_ek ?_
   refine c_norm [(2, Vi p2), (4, Vp b3 0), (7, Vp b0_6 0), (8, Vi i_s8_l10), (65, .bool (!x42))] ⟨rfl, rfl, rfl, rfl, rfl, trivial⟩ (fun J => ?_)
   refine c_cond (!x42) rfl (fun hb => ?_) (fun hb => ?_)
   · replace h := ite_t hb h
     refine c_sp ?_
     refine x_pure 1 [(6, .bool false)] _ _ _ (by kernel_rfl) ?_
     refine x_ek ?_
     refine c_ret ?_
     refine k_block_ret ?_
     refine k_then_ret ?_
     have hx := some_inj h
     subst hx
     have hy := some_inj hn10
     subst hy
     replace h := h10
     refine k_then_ret ?_
     refine k_block_ret ?_
     refine k_then_ret ?_
     refine r_ret (r_vals [.bool false] ⟨rfl, trivial⟩ ?_)
     have hx := some_inj h
     subst hx
     have hmr : MS w43 [M] := hms.pick [some 4] _ rfl
     have hsu : ∀ x ∈ fl [M], x ∈ fl [[b3], [b0_6], blk a14_j18, [b15], M] := pick_sub [some 4] _ rfl
     exact ⟨rfl, hev⟩
   replace h := ite_f hb h
   refine c_skip ?_
   refine k_block ?_
   refine k_then ?_
   refine c_plain ?_
   refine x_pure 3 [(14, Vi i_s8_l10), (15, Vi (IntKind.i64.wrap (i_s8_l10 + 1))), (8, Vi (IntKind.i64.wrap (i_s8_l10 + 1)))] _ _ _ (by kernel_rfl) ?_
   refine x_end rfl ?_
   have hx := some_inj h
   subst hx
   have hpk : MS w43 [[b3], [b0_6], M] := hms.pick [some 0, some 1, some 4] _ rfl
   have hsu : ∀ x ∈ fl [[b3], [b0_6], M], x ∈ fl [[b3], [b0_6], blk a14_j18, [b15], M] := pick_sub [some 0, some 1, some 4] _ rfl
   replace hs_p1_2 := hs_p1_2.sub hsu
   replace hf6_2 := hf6_2.sub hsu
   replace hms := hpk
   replace hfr : FR w.heap.size [[b3], [b0_6]] := hfr.pick [some 0, some 1] _ rfl
   clear hpk hsu
   exact k_then ⟨(m10, x38.2, IntKind.i64.wrap (i_s8_l10 + 1)), ⟨rfl, rfl, rfl, rfl, trivial⟩, ⟨hn10, hev, hms, hfr, hs_p1_2, hb3, hf6_2, hf6_1⟩, Nat.lt_succ_self _⟩
 replace h := ite_f hb h
 refine c_exit ?_
 refine k_then_exit ?_
 have hx := some_inj h
 subst hx
 have hy := some_inj hn10
 subst hy
 replace h := h10
 refine k_then_exit ?_
 refine k_block_in ?_
 refine k_then ?_
 refine c_norm [(2, Vi p2), (4, Vp b3 0)] ⟨rfl, rfl, trivial⟩ (fun J => ?_)
 refine c_sp ?_
 refine x_fieldAddr (xv := Vp b3 0) (Vp b3 2) rfl rfl rfl (reads_field tfld24_2 _ _) ?_
 refine x_load (xv := Vp b3 2) (.slice a_p1_2 (p1_2).length c_p1_2) rfl rfl rfl (reads_box tcell22 hb3 nn 2 _ rfl) ?_
 refine x_len (vs := [.slice a_p1_2 (p1_2).length c_p1_2]) (Vi ((p1_2).length : Int)) rfl rfl rfl (reads_len tsl22 _ _ _ _ _) ?_
 refine x_pure 2 [(69, .bool (decide (((p1_2).length : Int) > 200))), (70, .bool (decide (((p1_2).length : Int) > 200)))] _ _ _ (by kernel_rfl) ?_
 refine x_split 70 (decide (((p1_2).length : Int) > 200)) rfl (fun hb => ?_) (fun hb => ?_)
 · replace h := ite_t hb h
   refine x_pure 8 [(71, undef), (72, undef), (73, undef), (74, undef), (75, undef), (76, undef), (77, .bool true), (6, .bool true)] _ _ _ (by kernel_rfl) ?_
   refine x_ek ?_
   refine c_norm [(6, .bool true)] ⟨rfl, trivial⟩ (fun J => ?_)
   refine c_ret ?_
   refine r_ret (r_vals [.bool true] ⟨rfl, trivial⟩ ?_)
   have hx := some_inj h
   subst hx
   have hmr : MS wl10 [M] := hms.pick [some 2] _ rfl
   have hsu : ∀ x ∈ fl [M], x ∈ fl [[b3], [b0_6], M] := pick_sub [some 2] _ rfl
   exact ⟨rfl, hev⟩
 replace h := ite_f hb h
 refine x_load (xv := Vp b3 0) (.agg #[Vi p1_0, Vi p1_1, .slice a_p1_2 (p1_2).length c_p1_2, Vi p1_3, Vi p1_4]) rfl rfl rfl (reads_boxagg 0 [Vi p1_0, Vi p1_1, .slice a_p1_2 (p1_2).length c_p1_2, Vi p1_3, Vi p1_4] tagg24 hb3 nn rfl) ?_
 refine x_pure 1 [(72, Vi p2)] _ _ _ (by kernel_rfl) ?_
 obtain ⟨x44, hx, h⟩ := bind_some h
 have hpk : MS wl10 ([] ++ [[b3], [b0_6], M]) := hms.pick [some 0, some 1, some 2] _ rfl
 have hsb0 : ∀ x ∈ fl ([] ++ [[b3], [b0_6], M]), x ∈ fl [[b3], [b0_6], M] := pick_sub [some 0, some 1, some 2] _ rfl
 have hsb : ∀ x ∈ fl ([] ++ [(fl [[b3], [b0_6], M])]), x ∈ fl [[b3], [b0_6], M] := fun x hx => hsb0 x (fl_unfold x hx)
 have hcall := law41_exact_w p1_0 p1_1 a_p1_2 c_p1_2 p1_2 p1_3 p1_4 p2 _ wl10 (fl [[b3], [b0_6], M]) (MS.fold (P := []) hpk) (hs_p1_2.sub hsb) hx
 refine x_call 10 #[] #[] [.agg #[Vi p1_0, Vi p1_1, .slice a_p1_2 (p1_2).length c_p1_2, Vi p1_3, Vi p1_4], Vi p2] _ rfl rfl rfl rfl hcall ?_
 rintro v w45 ⟨rfl, he45⟩
 clear hcall hx
 refine inl1 ?_
 have hst := Stp.ext (ls := [[b3], [b0_6], M]) he45
 replace hb3 := he45.box hb3 nn
 replace hs_p1_2 := hs_p1_2.step hst
 replace hf6_1 := he45.box hf6_1 nn
 replace hf6_2 := hf6_2.step hst
 replace hms := hms.ev he45
 replace hev := hev.ext he45
 clear hpk hsb hsb0
 refine x_pure 1 [(74, .bool x44)] _ _ _ (by kernel_rfl) ?_
 refine x_split 74 x44 rfl (fun hb => ?_) (fun hb => ?_)
 · replace h := ite_t hb h
   obtain ⟨x46, hx, h⟩ := bind_some h
   have hcall := law41_sane_w _ w45 hx
   refine x_call 12 #[] #[] [] _ rfl rfl rfl rfl hcall ?_
   rintro v w47 ⟨rfl, he47⟩
   clear hcall hx
   refine inl1 ?_
   have hst := Stp.ext (ls := [[b3], [b0_6], M]) he47
   replace hb3 := he47.box hb3 nn
   replace hs_p1_2 := hs_p1_2.step hst
   replace hf6_1 := he47.box hf6_1 nn
   replace hf6_2 := hf6_2.step hst
   replace hms := hms.ev he47
   replace hev := hev.ext he47
   refine x_pure 3 [(76, .bool x46), (77, .bool x46), (6, .bool x46)] _ _ _ (by kernel_rfl) ?_
   refine x_ek ?_
   refine c_norm [(6, .bool x46)] ⟨rfl, trivial⟩ (fun J => ?_)
   refine c_ret ?_
   refine r_ret (r_vals [.bool x46] ⟨rfl, trivial⟩ ?_)
   have hx := some_inj h
   subst hx
   have hmr : MS w47 [M] := hms.pick [some 2] _ rfl
   have hsu : ∀ x ∈ fl [M], x ∈ fl [[b3], [b0_6], M] := pick_sub [some 2] _ rfl
   exact ⟨rfl, hev⟩
 replace h := ite_f hb h
 refine x_pure 4 [(75, undef), (76, .bool false), (77, .bool false), (6, .bool false)] _ _ _ (by kernel_rfl) ?_
 refine x_ek ?_
 refine c_norm [(6, .bool false)] ⟨rfl, trivial⟩ (fun J => ?_)
 refine c_ret ?_
 refine r_ret (r_vals [.bool false] ⟨rfl, trivial⟩ ?_)
 have hx := some_inj h
 subst hx
 have hmr : MS w45 [M] := hms.pick [some 2] _ rfl
 have hsu : ∀ x ∈ fl [M], x ∈ fl [[b3], [b0_6], M] := pick_sub [some 2] _ rfl
 exact ⟨rfl, hev⟩
end Go.Proofs.Ytdjadgodphfihaa
