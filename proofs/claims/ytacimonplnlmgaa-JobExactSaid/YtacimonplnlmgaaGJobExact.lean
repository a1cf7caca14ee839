/- Walks, printed by program: each function returns what the partial function of the same name returns. Conditions: those of each theorem. -/
import Derived.Test.YtacimonplnlmgaaGT
import Derived.Test.YtacimonplnlmgaaGgen
import Derived.Test.YtacimonplnlmgaaGlaw11exact
import Derived.Test.YtacimonplnlmgaaGlaw11four
import Derived.Test.YtacimonplnlmgaaGlaw11order
import Derived.Test.YtacimonplnlmgaaGlaw11sane
set_option linter.unusedVariables false
set_option linter.unusedSimpArgs false
set_option maxRecDepth 4000
namespace Go.Proofs.Ytacimonplnlmgaa
open Go Go.V Go.Proofs
def law11_JobExact_J19 (x6 : ((List Int) × Int)) (i_s12_l11 : Int) (e8_j19_1 : Int) (d22_j19 : List (Int × Int × Int × Int)) (e17_j19_1 : Int) : Option (Step (Int × Int) (Unit ⊕ Unit)) :=
((gen_Maker_From x6.1 e8_j19_1 (-1) ((d22_j19).length : Int)).bind fun x24 =>
((gen_Maker_From x6.1 x24.2 (-1) ((d22_j19).length : Int)).bind fun x26 =>
((law11_order x6.1 x26.2 d22_j19 e17_j19_1).bind fun x28 =>
((law11_exact d22_j19 e17_j19_1 x24.1 x26.1 x28.1).bind fun x31 =>
(if (!x31) = true then
some (.done (.inl ()))
else
some (.next (x28.2, IntKind.i64.wrap (i_s12_l11 + 1))))))))

def law11_JobExact_L11 (x6 : ((List Int) × Int)) (s : Int × Int) : Option (Step (Int × Int) (Unit ⊕ Unit)) :=
match s with
| (e8_l11_1, i_s12_l11) =>
(if (decide (i_s12_l11 < 4)) = true then
((gen_Maker_Job x6.1 e8_l11_1 12).bind fun x13 =>
(if (i_s12_l11 == 3) = true then
((gen_Maker_SpoilJob x6.1 x13.2 x13.1.1 x13.1.2).bind fun x20 =>
law11_JobExact_J19 x6 i_s12_l11 x20.2 x20.1.1 x20.1.2)
else
law11_JobExact_J19 x6 i_s12_l11 x13.2 x13.1.1 x13.1.2))
else
some (.done (.inr ())))

def law11_JobExact (p0 : List Int) (p1_0 : List (Int × Int × Int × Int)) (p1_1 : Int) (p2 : Int) (p3 : Int) (p4 : List (List Int)) : Option Bool :=
((gen_New p0).bind fun x6 =>
((loop (law11_JobExact_L11 x6) (x6.2, 0)).bind fun d => match d with
| (.inl _) => some false
| (.inr _) => (if (decide (((p1_0).length : Int) > 30)) = true then
some true
else
(if (decide (((p4).length : Int) > 30)) = true then
some true
else
((law11_exact p1_0 p1_1 p2 p3 p4).bind fun x33 =>
(if x33 = true then
((law11_four).bind fun x35 =>
((law11_exact x35.1 x35.2 p2 p3 p4).bind fun x38 =>
(if x38 = true then
((law11_sane).bind fun x40 =>
some x40)
else
some false)))
else
some false))))))

theorem law11_JobExact_w (a_p0 : Option Addr) (c_p0 : Nat) (p0 : List Int) (a_p1_0 : Option Addr) (c_p1_0 : Nat) (p1_0 : List (Int × Int × Int × Int)) (p1_1 : Int) (p2 : Int) (p3 : Int) (a_p4 : Option Addr) (c_p4 : Nat) (p4 : List (List Int)) (r : Bool) (w : World) (M : List Nat) (hms : MS w [M]) (hs_p0 : SlR (eInt .i64) w (fl [M]) a_p0 c_p0 p0) (hs_p1_0 : SlR (eProd (eInt .i64) (eProd (eInt .i64) (eProd (eInt .i64) (eInt .i64)))) w (fl [M]) a_p1_0 c_p1_0 p1_0) (hs_p4 : SlR (eSl (eInt .i64)) w (fl [M]) a_p4 c_p4 p4) (h : law11_JobExact p0 p1_0 p1_1 p2 p3 p4 = some r) : CallVC Try.prog 6 [.slice a_p0 (p0).length c_p0, .agg #[.slice a_p1_0 (p1_0).length c_p1_0, .int .i64 p1_1], .int .i64 p2, .int .i64 p3, .slice a_p4 (p4).length c_p4] w fun v w' => v = .bool r ∧ Ev [] w w' := by
  refine calls_vc hmx Try.func6 (by kernel_rfl) rfl (rs := [.tmp 10]) rfl (by kernel_rfl) (args := [.slice a_p0 (p0).length c_p0, .agg #[.slice a_p1_0 (p1_0).length c_p1_0, .int .i64 p1_1], .int .i64 p2, .int .i64 p3, .slice a_p4 (p4).length c_p4]) rfl ?_
  have hev : Ev [] w w := Ev.refl _ _
  have hfr : FR w.heap.size [] := FR.nil _
  refine c_seq (c_plain ?_)
  refine x_box (xv := .agg #[.slice a_p1_0 (p1_0).length c_p1_0, .int .i64 p1_1]) rfl rfl rfl (fun b4 w4 hq4 hb4 he4 hz4 => ?_)
  replace hb4 : w4.heap[b4]? = some (.cells #[.slice a_p1_0 (p1_0).length c_p1_0, .int .i64 p1_1] 24 (0, 0)) := hb4
  refine ⟨.inl rfl, ?_⟩
  have hst := Stp.box (ls := [M]) he4 hq4
  replace hs_p0 := hs_p0.step hst
  replace hs_p1_0 := hs_p1_0.step hst
  replace hs_p4 := hs_p4.step hst
  replace hms := hms.box he4 hq4 hb4
  replace hfr := hfr.box hev.size hq4
  replace hev := hev.ext he4
  refine x_pure 1 [(10, .bool false)] _ _ _ (by kernel_rfl) ?_
  refine x_end rfl (k_then ?_)
  refine c_seq (c_plain ?_)
  refine x_pure 1 [(14, .slice a_p0 (p0).length c_p0)] _ _ _ (by kernel_rfl) ?_
  obtain ⟨x6, hx, h⟩ := bind_some h
  have hpk : MS w4 ([] ++ [[b4], M]) := hms.pick [some 0, some 1] _ rfl
  have hsb0 : ∀ x ∈ fl ([] ++ [[b4], M]), x ∈ fl [[b4], M] := pick_sub [some 0, some 1] _ rfl
  have hsb : ∀ x ∈ fl ([] ++ [(fl [[b4], M])]), x ∈ fl [[b4], M] := fun x hx => hsb0 x (fl_unfold x hx)
  have hcall := gen_New_w a_p0 c_p0 p0 _ w4 (fl [[b4], M]) (MS.fold (P := []) hpk) (hs_p0.sub hsb) hx
  refine x_call 13 #[] #[] [.slice a_p0 (p0).length c_p0] _ rfl rfl rfl rfl hcall ?_
  rintro v w7 ⟨b0_7, a1_7, c1_7, rfl, he7, hmn7, hfn7, hf7_1, hf7_2⟩
  clear hcall hx
  refine ⟨.inl rfl, ?_⟩
  have hpk2 : MS w4 ([] ++ [[b4], M]) := hms.pick [some 0, some 1] _ rfl
  have hsb2 : ∀ x ∈ fl ([] ++ [[b4], M]), x ∈ fl [[b4], M] := pick_sub [some 0, some 1] _ rfl
  have hst0 := Stp.call (LS := [[b4], M]) (res := [[b0_7]]) (par := []) (R := [[b4], M]) he7 (fun b hb => hsb2 b (fl_left' (P := []) b hb)) hfn7 (NP.init _ _) (fun x hx => hsb2 x (fl_right' (P := []) x hx))
  have hsn : ∀ x ∈ fl [[b0_7], [b4], M], x ∈ fl ([[b0_7]] ++ ([] ++ [[b4], M])) := pick_sub [some 0, some 1, some 2] _ rfl
  have hst := hst0.res hsn
  replace hs_p0 := hs_p0.step hst
  replace hs_p1_0 := hs_p1_0.step hst
  replace hs_p4 := hs_p4.step hst
  replace hb4 := he7.box hb4 ((MS.outs (P := []) hpk2 0 rfl) _ (List.mem_singleton.2 rfl))
  replace hms : MS w7 [[b0_7], [b4], M] := (MS.call (P := []) (R := [[b4], M]) (res := [[b0_7]]) (par := []) hpk2 he7 hmn7 hfn7 (NP.init _ _)).pick [some 0, some 1, some 2] _ rfl
  have hfr2 : FR w.heap.size [[b0_7], [b4]] := (FR.cons (fun b hb => Nat.le_trans hev.size (hfn7.at 0 rfl b hb)) (FR.cons (hfr.at 0 rfl) (FR.nil _)))
  replace hev := hev.ext he7
  replace hfr := hfr2
  clear hfr2
  have hsp : ∀ x ∈ fl [[b0_7], [b4], M], x ∈ fl ([[b0_7]] ++ ([] ++ [(fl [[b4], M])])) := fun x hx => fl_tot (res := [[b0_7]]) (par := []) (R := [[b4], M]) x (hsn x hx)
  replace hf7_2 := hf7_2.sub hsp
  clear hpk hsb hsb0 hpk2 hsb2 hst0 hsn hst
  refine x_pure 1 [(11, .pointer (some ⟨b0_7, 0, none⟩))] _ _ _ (by kernel_rfl) ?_
  refine x_end rfl (k_then ?_)
  refine c_seq ?_
  refine c_seq (c_plain ?_)
  refine x_pure 1 [(12, .int .i64 0)] _ _ _ (by kernel_rfl) ?_
  refine x_end rfl (k_then ?_)
  refine c_block ?_
  have hpk : MS w7 [[b4], [b0_7], M] := hms.pick [some 1, some 0, some 2] _ rfl
  have hsu : ∀ x ∈ fl [[b4], [b0_7], M], x ∈ fl [[b0_7], [b4], M] := pick_sub [some 1, some 0, some 2] _ rfl
  replace hs_p4 := hs_p4.sub hsu
  replace hs_p1_0 := hs_p1_0.sub hsu
  replace hf7_2 := hf7_2.sub hsu
  replace hms := hpk
  replace hfr : FR w.heap.size [[b4], [b0_7]] := hfr.pick [some 1, some 0] _ rfl
  clear hpk hsu
  obtain ⟨d11, hd11, h11⟩ := bind_some h
  obtain ⟨m11, hd11⟩ := loop_some hd11
  refine c_loop (loop_rule hmx (σ := Nat × Int × Int) (fun s => match s with | (_, e8_l11_1, i_s12_l11) => [(2, .int .i64 p2), (3, .int .i64 p3), (4, .slice a_p4 (p4).length c_p4), (6, .pointer (some ⟨b4, 0, none⟩)), (11, .pointer (some ⟨b0_7, 0, none⟩)), (12, .int .i64 i_s12_l11)]) (fun s w' => match s with | (m, e8_l11_1, i_s12_l11) => loopN (law11_JobExact_L11 x6) m (e8_l11_1, i_s12_l11) = some d11 ∧ Ev [] w w' ∧ MS w' [[b4], [b0_7], M] ∧ FR w.heap.size [[b4], [b0_7]] ∧ SlR (eSl (eInt .i64)) w' (fl [[b4], [b0_7], M]) a_p4 c_p4 p4 ∧ SlR (eProd (eInt .i64) (eProd (eInt .i64) (eProd (eInt .i64) (eInt .i64)))) w' (fl [[b4], [b0_7], M]) a_p1_0 c_p1_0 p1_0 ∧ w'.heap[b4]? = some (.cells #[.slice a_p1_0 (p1_0).length c_p1_0, .int .i64 p1_1] 24 (0, 0)) ∧ SlR (eInt .i64) w' (fl [[b4], [b0_7], M]) a1_7 c1_7 x6.1 ∧ w'.heap[b0_7]? = some (.cells #[.slice a1_7 (x6.1).length c1_7, .int .i64 e8_l11_1] 54 (0, 0))) (fun s => s.1) (m11, x6.2, 0) ⟨rfl, rfl, rfl, rfl, rfl, rfl, trivial⟩ ⟨hd11, hev, hms, hfr, hs_p4, hs_p1_0, hb4, hf7_2, hf7_1⟩ ?_)
  rintro ⟨m11, e8_l11_1, i_s12_l11⟩ J wl11 ⟨hn11, hev, hms, hfr, hs_p4, hs_p1_0, hb4, hf7_2, hf7_1⟩
  rcases m11 with _ | m11
  · exact (loopN_zero hn11).elim
  obtain ⟨t11, h, hn11⟩ := bind_some hn11
  refine c_seq ?_
  refine c_seq (c_plain ?_)
  refine x_pure 2 [(16, .int .i64 i_s12_l11), (17, .bool (decide (i_s12_l11 < 4)))] _ _ _ (by kernel_rfl) ?_
  refine x_end rfl (k_then ?_)
  refine c_norm [(2, .int .i64 p2), (3, .int .i64 p3), (4, .slice a_p4 (p4).length c_p4), (6, .pointer (some ⟨b4, 0, none⟩)), (11, .pointer (some ⟨b0_7, 0, none⟩)), (12, .int .i64 i_s12_l11), (17, .bool (decide (i_s12_l11 < 4)))] ⟨rfl, rfl, rfl, rfl, rfl, rfl, rfl, trivial⟩ (fun J => ?_)
  refine c_cond (decide (i_s12_l11 < 4)) rfl (fun hb => ?_) (fun hb => ?_)
  · replace h := ite_t hb h
    refine c_skip ?_
    refine k_then ?_
    refine c_seq ?_
    refine c_block ?_
    refine c_seq (c_plain ?_)
    refine x_pure 1 [(20, .pointer (some ⟨b0_7, 0, none⟩))] _ _ _ (by kernel_rfl) ?_
    obtain ⟨x13, hx, h⟩ := bind_some h
    have hpk : MS wl11 ([[b0_7]] ++ [[b4], M]) := hms.pick [some 1, some 0, some 2] _ rfl
    have hsb0 : ∀ x ∈ fl ([[b0_7]] ++ [[b4], M]), x ∈ fl [[b4], [b0_7], M] := pick_sub [some 1, some 0, some 2] _ rfl
    have hsb : ∀ x ∈ fl ([[b0_7]] ++ [(fl [[b4], M])]), x ∈ fl [[b4], [b0_7], M] := fun x hx => hsb0 x (fl_unfold x hx)
    have hcall := gen_Maker_Job_w b0_7 a1_7 c1_7 x6.1 e8_l11_1 12 _ wl11 (fl [[b4], M]) (hpk.fold (P := [[b0_7]])) (hf7_2.sub hsb) hf7_1 hx
    refine x_call 14 #[] #[] [.pointer (some ⟨b0_7, 0, none⟩), .int .i64 12] _ rfl rfl rfl rfl hcall ?_
    rintro v w14 ⟨a0_14, c0_14, rfl, he14, hp14_0, hmn14, hfn14, hf14_1⟩
    clear hcall hx
    refine ⟨.inl rfl, ?_⟩
    have hpk2 : MS wl11 ([[b0_7]] ++ [[b4], M]) := hms.pick [some 1, some 0, some 2] _ rfl
    have hsb2 : ∀ x ∈ fl ([[b0_7]] ++ [[b4], M]), x ∈ fl [[b4], [b0_7], M] := pick_sub [some 1, some 0, some 2] _ rfl
    have hst0 := Stp.call (LS := [[b4], [b0_7], M]) (res := [blk a0_14]) (par := [[b0_7]]) (R := [[b4], M]) he14 (fun b hb => hsb2 b (fl_left' (P := [[b0_7]]) b hb)) hfn14 (NP.init _ _) (fun x hx => hsb2 x (fl_right' (P := [[b0_7]]) x hx))
    have hsn : ∀ x ∈ fl [blk a0_14, [b4], [b0_7], M], x ∈ fl ([blk a0_14] ++ ([[b0_7]] ++ [[b4], M])) := pick_sub [some 0, some 2, some 1, some 3] _ rfl
    have hst := hst0.res hsn
    replace hs_p4 := hs_p4.step hst
    replace hb4 := he14.box hb4 ((MS.outs (P := [[b0_7]]) hpk2 0 rfl) _ (List.mem_singleton.2 rfl))
    replace hs_p1_0 := hs_p1_0.step hst
    replace hf7_2 := hf7_2.step hst
    replace hms : MS w14 [blk a0_14, [b4], [b0_7], M] := (MS.call (P := [[b0_7]]) (R := [[b4], M]) (res := [blk a0_14]) (par := [[b0_7]]) hpk2 he14 hmn14 hfn14 (NP.init _ _)).pick [some 0, some 2, some 1, some 3] _ rfl
    have hPf : ∀ b ∈ fl [[b0_7]], w.heap.size ≤ b := FR.mem (ls := [[b0_7]]) (hfr.pick [some 1] _ rfl)
    have hfr2 : FR w.heap.size [blk a0_14, [b4], [b0_7]] := (FR.cons (fun b hb => Nat.le_trans hev.size (hfn14.at 0 rfl b hb)) (FR.cons (hfr.at 0 rfl) (FR.cons (hfr.at 1 rfl) (FR.nil _))))
    replace hev := hev.then he14 (fun b hb => .inr (hPf b hb))
    replace hfr := hfr2
    clear hfr2
    replace hf7_1 := hp14_0
    replace hf14_1 := OwnS.plain (M' := fl [blk a0_14, [b4], [b0_7], M]) (plain_prod (plain_int _) (plain_prod (plain_int _) (plain_prod (plain_int _) (plain_int _)))) hf14_1
    clear hpk hsb hsb0 hpk2 hsb2 hst0 hsn hst
    have hpk : MS w14 [[b4], [b0_7], M] := hms.pick [some 1, some 2, some 3] _ rfl
    have hsu : ∀ x ∈ fl [[b4], [b0_7], M], x ∈ fl [blk a0_14, [b4], [b0_7], M] := pick_sub [some 1, some 2, some 3] _ rfl
    replace hs_p4 := hs_p4.sub hsu
    replace hs_p1_0 := hs_p1_0.sub hsu
    replace hf7_2 := hf7_2.sub hsu
    replace hf14_1 := hf14_1.ro hsu (pick_out hms 0 rfl [some 1, some 2, some 3] [[b4], [b0_7], M] rfl rfl)
    replace hms := hpk
    replace hfr : FR w.heap.size [[b4], [b0_7]] := hfr.pick [some 1, some 2] _ rfl
    clear hpk hsu
    refine x_alloc (z := .agg #[.slice none 0 0, .int .i64 0]) rfl rfl (by kernel_rfl) (fun b16 w16 hq16 hb16 he16 hz16 => ?_)
    replace hb16 : w16.heap[b16]? = some (.cells #[.slice none 0 0, .int .i64 0] 24 (0, 0)) := hb16
    refine ⟨.inl rfl, ?_⟩
    have hst := Stp.box (ls := [[b4], [b0_7], M]) he16 hq16
    replace hs_p4 := hs_p4.step hst
    replace hb4 := he16.box hb4 nn
    replace hs_p1_0 := hs_p1_0.step hst
    replace hf7_1 := he16.box hf7_1 nn
    replace hf7_2 := hf7_2.step hst
    replace hf14_1 := hf14_1.step hst
    replace hms := hms.box he16 hq16 hb16
    replace hfr := hfr.box hev.size hq16
    replace hev := hev.ext he16
    obtain ⟨w18, hr18, hb18, he18⟩ := store_boxagg 0 [.slice a0_14 (x13.1.1).length c0_14, .int .i64 x13.1.2] #[.slice a0_14 (x13.1.1).length c0_14, .int .i64 x13.1.2] tagg24 hb16 rfl rfl rfl
    refine x_store w18 (xv := .pointer (some ⟨b16, 0, none⟩)) (yv := .agg #[.slice a0_14 (x13.1.1).length c0_14, .int .i64 x13.1.2]) rfl rfl rfl rfl hr18 ?_
    refine ⟨.inl rfl, ?_⟩
    have hst := Stp.ev' (ls := [[b16], [b4], [b0_7], M]) he18 (mem_flat 0 rfl)
    replace hs_p4 := hs_p4.step hst
    replace hb4 := he18.box hb4 (hms.apart 1 0 rfl rfl rfl _ (List.mem_singleton.2 rfl))
    replace hs_p1_0 := hs_p1_0.step hst
    replace hf7_1 := he18.box hf7_1 (hms.apart 2 0 rfl rfl rfl _ (List.mem_singleton.2 rfl))
    replace hf7_2 := hf7_2.step hst
    replace hf14_1 := hf14_1.step hst
    replace hms := hms.ev he18
    replace hev := hev.then he18 (fun b hb => .inr (hfr.at 0 rfl b hb))
    replace hb16 := hb18
    refine x_end rfl (k_then ?_)
    refine c_join (σ := Int × (List (Int × Int × Int × Int)) × Int × Option Addr × Nat) (fun s => match s with | (e8_j19_1, d22_j19, e17_j19_1, a22_j19, c22_j19) => [(2, .int .i64 p2), (3, .int .i64 p3), (4, .slice a_p4 (p4).length c_p4), (6, .pointer (some ⟨b4, 0, none⟩)), (11, .pointer (some ⟨b0_7, 0, none⟩)), (12, .int .i64 i_s12_l11), (13, .pointer (some ⟨b16, 0, none⟩))]) (fun s w' => match s with | (e8_j19_1, d22_j19, e17_j19_1, a22_j19, c22_j19) => law11_JobExact_J19 x6 i_s12_l11 e8_j19_1 d22_j19 e17_j19_1 = some t11 ∧ Ev [] w w' ∧ MS w' [[b4], [b0_7], [b16], M] ∧ FR w.heap.size [[b4], [b0_7], [b16]] ∧ SlR (eSl (eInt .i64)) w' (fl [[b4], [b0_7], [b16], M]) a_p4 c_p4 p4 ∧ SlR (eProd (eInt .i64) (eProd (eInt .i64) (eProd (eInt .i64) (eInt .i64)))) w' (fl [[b4], [b0_7], [b16], M]) a_p1_0 c_p1_0 p1_0 ∧ w'.heap[b4]? = some (.cells #[.slice a_p1_0 (p1_0).length c_p1_0, .int .i64 p1_1] 24 (0, 0)) ∧ SlR (eInt .i64) w' (fl [[b4], [b0_7], [b16], M]) a1_7 c1_7 x6.1 ∧ w'.heap[b0_7]? = some (.cells #[.slice a1_7 (x6.1).length c1_7, .int .i64 e8_j19_1] 54 (0, 0)) ∧ SlR (eProd (eInt .i64) (eProd (eInt .i64) (eProd (eInt .i64) (eInt .i64)))) w' (fl [[b4], [b0_7], [b16], M]) a22_j19 c22_j19 d22_j19 ∧ w'.heap[b16]? = some (.cells #[.slice a22_j19 (d22_j19).length c22_j19, .int .i64 e17_j19_1] 24 (0, 0))) ?_ ?_
    · refine c_seq (c_plain ?_)
      refine x_pure 2 [(22, .int .i64 i_s12_l11), (23, .bool (i_s12_l11 == 3))] _ _ _ (by kernel_rfl) ?_
      refine x_end rfl (k_then ?_)
      refine c_cond (i_s12_l11 == 3) rfl (fun hb => ?_) (fun hb => ?_)
      · replace h := ite_t hb h
        refine c_plain ?_
        refine x_pure 1 [(24, .pointer (some ⟨b0_7, 0, none⟩))] _ _ _ (by kernel_rfl) ?_
        refine x_load (xv := .pointer (some ⟨b16, 0, none⟩)) (.agg #[.slice a0_14 (x13.1.1).length c0_14, .int .i64 x13.1.2]) rfl rfl rfl (reads_boxagg 0 [.slice a0_14 (x13.1.1).length c0_14, .int .i64 x13.1.2] tagg24 hb16 nn rfl) ?_
        obtain ⟨x20, hx, h⟩ := bind_some h
        have hpk : MS w18 ([[b0_7]] ++ [[b16], [b4], M]) := hms.pick [some 2, some 0, some 1, some 3] _ rfl
        have hsb0 : ∀ x ∈ fl ([[b0_7]] ++ [[b16], [b4], M]), x ∈ fl [[b16], [b4], [b0_7], M] := pick_sub [some 2, some 0, some 1, some 3] _ rfl
        have hsb : ∀ x ∈ fl ([[b0_7]] ++ [(fl [[b16], [b4], M])]), x ∈ fl [[b16], [b4], [b0_7], M] := fun x hx => hsb0 x (fl_unfold x hx)
        have hcall := gen_Maker_SpoilJob_w b0_7 a1_7 c1_7 x6.1 x13.2 a0_14 c0_14 x13.1.1 x13.1.2 _ w18 (fl [[b16], [b4], M]) (hpk.fold (P := [[b0_7]])) (hf7_2.sub hsb) hf7_1 (hf14_1.sub hsb) hx
        refine x_call 17 #[] #[] [.pointer (some ⟨b0_7, 0, none⟩), .agg #[.slice a0_14 (x13.1.1).length c0_14, .int .i64 x13.1.2]] _ rfl rfl rfl rfl hcall ?_
        rintro v w21 ⟨a0_21, c0_21, rfl, he21, hp21_0, hmn21, hfn21, hf21_1⟩
        clear hcall hx
        refine ⟨.inl rfl, ?_⟩
        have hpk2 : MS w18 ([[b0_7]] ++ [[b16], [b4], M]) := hms.pick [some 2, some 0, some 1, some 3] _ rfl
        have hsb2 : ∀ x ∈ fl ([[b0_7]] ++ [[b16], [b4], M]), x ∈ fl [[b16], [b4], [b0_7], M] := pick_sub [some 2, some 0, some 1, some 3] _ rfl
        have hst0 := Stp.call (LS := [[b16], [b4], [b0_7], M]) (res := [blk a0_21]) (par := [[b0_7]]) (R := [[b16], [b4], M]) he21 (fun b hb => hsb2 b (fl_left' (P := [[b0_7]]) b hb)) hfn21 (NP.init _ _) (fun x hx => hsb2 x (fl_right' (P := [[b0_7]]) x hx))
        have hsn : ∀ x ∈ fl [blk a0_21, [b16], [b4], [b0_7], M], x ∈ fl ([blk a0_21] ++ ([[b0_7]] ++ [[b16], [b4], M])) := pick_sub [some 0, some 2, some 3, some 1, some 4] _ rfl
        have hst := hst0.res hsn
        replace hs_p4 := hs_p4.step hst
        replace hb4 := he21.box hb4 ((MS.outs (P := [[b0_7]]) hpk2 1 rfl) _ (List.mem_singleton.2 rfl))
        replace hs_p1_0 := hs_p1_0.step hst
        replace hf7_2 := hf7_2.step hst
        replace hf14_1 := hf14_1.step hst
        replace hb16 := he21.box hb16 ((MS.outs (P := [[b0_7]]) hpk2 0 rfl) _ (List.mem_singleton.2 rfl))
        replace hms : MS w21 [blk a0_21, [b16], [b4], [b0_7], M] := (MS.call (P := [[b0_7]]) (R := [[b16], [b4], M]) (res := [blk a0_21]) (par := [[b0_7]]) hpk2 he21 hmn21 hfn21 (NP.init _ _)).pick [some 0, some 2, some 3, some 1, some 4] _ rfl
        have hPf : ∀ b ∈ fl [[b0_7]], w.heap.size ≤ b := FR.mem (ls := [[b0_7]]) (hfr.pick [some 2] _ rfl)
        have hfr2 : FR w.heap.size [blk a0_21, [b16], [b4], [b0_7]] := (FR.cons (fun b hb => Nat.le_trans hev.size (hfn21.at 0 rfl b hb)) (FR.cons (hfr.at 0 rfl) (FR.cons (hfr.at 1 rfl) (FR.cons (hfr.at 2 rfl) (FR.nil _)))))
        replace hev := hev.then he21 (fun b hb => .inr (hPf b hb))
        replace hfr := hfr2
        clear hfr2
        replace hf7_1 := hp21_0
        replace hf21_1 := OwnS.plain (M' := fl [blk a0_21, [b16], [b4], [b0_7], M]) (plain_prod (plain_int _) (plain_prod (plain_int _) (plain_prod (plain_int _) (plain_int _)))) hf21_1
        clear hpk hsb hsb0 hpk2 hsb2 hst0 hsn hst
        have hpk : MS w21 [[b16], [b4], [b0_7], M] := hms.pick [some 1, some 2, some 3, some 4] _ rfl
        have hsu : ∀ x ∈ fl [[b16], [b4], [b0_7], M], x ∈ fl [blk a0_21, [b16], [b4], [b0_7], M] := pick_sub [some 1, some 2, some 3, some 4] _ rfl
        replace hs_p4 := hs_p4.sub hsu
        replace hs_p1_0 := hs_p1_0.sub hsu
        replace hf7_2 := hf7_2.sub hsu
        replace hf14_1 := hf14_1.sub hsu
        replace hf21_1 := hf21_1.ro hsu (pick_out hms 0 rfl [some 1, some 2, some 3, some 4] [[b16], [b4], [b0_7], M] rfl rfl)
        replace hms := hpk
        replace hfr : FR w.heap.size [[b16], [b4], [b0_7]] := hfr.pick [some 1, some 2, some 3] _ rfl
        clear hpk hsu
        obtain ⟨w23, hr23, hb23, he23⟩ := store_boxagg 0 [.slice a0_21 (x20.1.1).length c0_21, .int .i64 x20.1.2] #[.slice a0_21 (x20.1.1).length c0_21, .int .i64 x20.1.2] tagg24 hb16 rfl rfl rfl
        refine x_store w23 (xv := .pointer (some ⟨b16, 0, none⟩)) (yv := .agg #[.slice a0_21 (x20.1.1).length c0_21, .int .i64 x20.1.2]) rfl rfl rfl rfl hr23 ?_
        refine ⟨.inl rfl, ?_⟩
        have hst := Stp.ev' (ls := [[b16], [b4], [b0_7], M]) he23 (mem_flat 0 rfl)
        replace hs_p4 := hs_p4.step hst
        replace hb4 := he23.box hb4 (hms.apart 1 0 rfl rfl rfl _ (List.mem_singleton.2 rfl))
        replace hs_p1_0 := hs_p1_0.step hst
        replace hf7_1 := he23.box hf7_1 (hms.apart 2 0 rfl rfl rfl _ (List.mem_singleton.2 rfl))
        replace hf7_2 := hf7_2.step hst
        replace hf14_1 := hf14_1.step hst
        replace hf21_1 := hf21_1.step hst
        replace hms := hms.ev he23
        replace hev := hev.then he23 (fun b hb => .inr (hfr.at 0 rfl b hb))
        replace hb16 := hb23
        refine x_end rfl ?_
        have hpk : MS w23 [[b4], [b0_7], [b16], M] := hms.pick [some 1, some 2, some 0, some 3] _ rfl
        have hsu : ∀ x ∈ fl [[b4], [b0_7], [b16], M], x ∈ fl [[b16], [b4], [b0_7], M] := pick_sub [some 1, some 2, some 0, some 3] _ rfl
        replace hs_p4 := hs_p4.sub hsu
        replace hs_p1_0 := hs_p1_0.sub hsu
        replace hf7_2 := hf7_2.sub hsu
        replace hf21_1 := hf21_1.sub hsu
        replace hms := hpk
        replace hfr : FR w.heap.size [[b4], [b0_7], [b16]] := hfr.pick [some 1, some 2, some 0] _ rfl
        clear hpk hsu
        exact k_then ⟨(x20.2, x20.1.1, x20.1.2, a0_21, c0_21), ⟨rfl, rfl, rfl, rfl, rfl, rfl, rfl, trivial⟩, h, hev, hms, hfr, hs_p4, hs_p1_0, hb4, hf7_2, hf7_1, hf21_1, hb16⟩
      replace h := ite_f hb h
      refine c_skip ?_
      have hpk : MS w18 [[b4], [b0_7], [b16], M] := hms.pick [some 1, some 2, some 0, some 3] _ rfl
      have hsu : ∀ x ∈ fl [[b4], [b0_7], [b16], M], x ∈ fl [[b16], [b4], [b0_7], M] := pick_sub [some 1, some 2, some 0, some 3] _ rfl
      replace hs_p4 := hs_p4.sub hsu
      replace hs_p1_0 := hs_p1_0.sub hsu
      replace hf7_2 := hf7_2.sub hsu
      replace hf14_1 := hf14_1.sub hsu
      replace hms := hpk
      replace hfr : FR w.heap.size [[b4], [b0_7], [b16]] := hfr.pick [some 1, some 2, some 0] _ rfl
      clear hpk hsu
      exact k_then ⟨(x13.2, x13.1.1, x13.1.2, a0_14, c0_14), ⟨rfl, rfl, rfl, rfl, rfl, rfl, rfl, trivial⟩, h, hev, hms, hfr, hs_p4, hs_p1_0, hb4, hf7_2, hf7_1, hf14_1, hb16⟩
    rintro ⟨e8_j19_1, d22_j19, e17_j19_1, a22_j19, c22_j19⟩ J wj19 ⟨h, hev, hms, hfr, hs_p4, hs_p1_0, hb4, hf7_2, hf7_1, hj22_j19, hb16⟩
    refine c_seq ?_
    refine c_drawn [b0_7] [(0, false), (1, false), (2, false), (3, false), (4, false), (6, false), (7, false), (8, false), (9, false), (11, false), (12, false), (5, false), (10, false), (13, false), (14, false), (15, false)] _ (by kernel_rfl) rfl ?_
    have hst := Stp.ext (ls := [[b4], [b0_7], [b16], M]) (Ev.drew wj19)
    replace hs_p4 := hs_p4.step hst
    replace hb4 := (Ev.drew wj19).box hb4 nn
    replace hs_p1_0 := hs_p1_0.step hst
    replace hf7_1 := (Ev.drew wj19).box hf7_1 nn
    replace hf7_2 := hf7_2.step hst
    replace hb16 := (Ev.drew wj19).box hb16 nn
    replace hj22_j19 := hj22_j19.step hst
    replace hms := hms.ev (Ev.drew wj19)
    replace hev := hev.ext (Ev.drew wj19)
    refine x_load (xv := .pointer (some ⟨b16, 0, none⟩)) (.agg #[.slice a22_j19 (d22_j19).length c22_j19, .int .i64 e17_j19_1]) rfl rfl rfl (reads_boxagg 0 [.slice a22_j19 (d22_j19).length c22_j19, .int .i64 e17_j19_1] tagg24 hb16 ((hms.apart 2 1 rfl rfl rfl) _ (List.mem_singleton.2 rfl)) rfl) ?_
    refine x_pure 1 [(28, .pointer (some ⟨b0_7, 0, none⟩))] _ _ _ (by kernel_rfl) ?_
    refine x_fieldAddr (xv := .pointer (some ⟨b16, 0, none⟩)) (.pointer (some ⟨b16, 0, none⟩)) rfl rfl rfl (reads_field tfld24_0 _ _) ?_
    refine x_load (xv := .pointer (some ⟨b16, 0, none⟩)) (.slice a22_j19 (d22_j19).length c22_j19) rfl rfl rfl (reads_box tcell22 hb16 ((hms.apart 2 1 rfl rfl rfl) _ (List.mem_singleton.2 rfl)) 0 _ rfl) ?_
    refine x_len (vs := [.slice a22_j19 (d22_j19).length c22_j19]) (.int .i64 ((d22_j19).length : Int)) rfl rfl rfl (reads_len tsl22 _ _ _ _ _) ?_
    refine x_pure 1 [(33, .pointer (some ⟨b0_7, 0, none⟩))] _ _ _ (by kernel_rfl) ?_
    refine x_fieldAddr (xv := .pointer (some ⟨b16, 0, none⟩)) (.pointer (some ⟨b16, 0, none⟩)) rfl rfl rfl (reads_field tfld24_0 _ _) ?_
    refine x_load (xv := .pointer (some ⟨b16, 0, none⟩)) (.slice a22_j19 (d22_j19).length c22_j19) rfl rfl rfl (reads_box tcell22 hb16 ((hms.apart 2 1 rfl rfl rfl) _ (List.mem_singleton.2 rfl)) 0 _ rfl) ?_
    refine x_len (vs := [.slice a22_j19 (d22_j19).length c22_j19]) (.int .i64 ((d22_j19).length : Int)) rfl rfl rfl (reads_len tsl22 _ _ _ _ _) ?_
    refine x_pure 1 [(38, .pointer (some ⟨b0_7, 0, none⟩))] _ _ _ (by kernel_rfl) ?_
    refine x_load (xv := .pointer (some ⟨b16, 0, none⟩)) (.agg #[.slice a22_j19 (d22_j19).length c22_j19, .int .i64 e17_j19_1]) rfl rfl rfl (reads_boxagg 0 [.slice a22_j19 (d22_j19).length c22_j19, .int .i64 e17_j19_1] tagg24 hb16 ((hms.apart 2 1 rfl rfl rfl) _ (List.mem_singleton.2 rfl)) rfl) ?_
    obtain ⟨x24, hx, h⟩ := bind_some h
    have hpk : MS (wj19).drew ([[b0_7]] ++ [[b4], [b16], M]) := hms.pick [some 1, some 0, some 2, some 3] _ rfl
    have hsb0 : ∀ x ∈ fl ([[b0_7]] ++ [[b4], [b16], M]), x ∈ fl [[b4], [b0_7], [b16], M] := pick_sub [some 1, some 0, some 2, some 3] _ rfl
    have hsb : ∀ x ∈ fl ([[b0_7]] ++ [(fl [[b4], [b16], M])]), x ∈ fl [[b4], [b0_7], [b16], M] := fun x hx => hsb0 x (fl_unfold x hx)
    have hcall := gen_Maker_From_w b0_7 a1_7 c1_7 x6.1 e8_j19_1 (-1) ((d22_j19).length : Int) _ (wj19).drew (fl [[b4], [b16], M]) (hpk.fold (P := [[b0_7]])) (hf7_2.sub hsb) hf7_1 hx
    refine x_call 19 #[] #[] [.pointer (some ⟨b0_7, 0, none⟩), .int .i64 (-1), .int .i64 ((d22_j19).length : Int)] _ rfl rfl rfl rfl hcall ?_
    rintro v w25 ⟨rfl, he25, hp25_0⟩
    clear hcall hx
    refine ⟨.inr he25, ?_⟩
    have hpk2 : MS (wj19).drew ([[b0_7]] ++ [[b4], [b16], M]) := hms.pick [some 1, some 0, some 2, some 3] _ rfl
    have hsb2 : ∀ x ∈ fl ([[b0_7]] ++ [[b4], [b16], M]), x ∈ fl [[b4], [b0_7], [b16], M] := pick_sub [some 1, some 0, some 2, some 3] _ rfl
    have hst0 := Stp.call (LS := [[b4], [b0_7], [b16], M]) (res := []) (par := [[b0_7]]) (R := [[b4], [b16], M]) he25 (fun b hb => hsb2 b (fl_left' (P := [[b0_7]]) b hb)) (FR.nil _) (NP.init _ _) (fun x hx => hsb2 x (fl_right' (P := [[b0_7]]) x hx))
    have hsn : ∀ x ∈ fl [[b4], [b0_7], [b16], M], x ∈ fl ([] ++ ([[b0_7]] ++ [[b4], [b16], M])) := pick_sub [some 1, some 0, some 2, some 3] _ rfl
    have hst := hst0.res hsn
    replace hs_p4 := hs_p4.step hst
    replace hb4 := he25.box hb4 ((MS.outs (P := [[b0_7]]) hpk2 0 rfl) _ (List.mem_singleton.2 rfl))
    replace hs_p1_0 := hs_p1_0.step hst
    replace hf7_2 := hf7_2.step hst
    replace hb16 := he25.box hb16 ((MS.outs (P := [[b0_7]]) hpk2 1 rfl) _ (List.mem_singleton.2 rfl))
    replace hj22_j19 := hj22_j19.step hst
    replace hms := hms.ev he25
    have hPf : ∀ b ∈ fl [[b0_7]], w.heap.size ≤ b := FR.mem (ls := [[b0_7]]) (hfr.pick [some 1] _ rfl)
    replace hev := hev.then he25 (fun b hb => .inr (hPf b hb))
    replace hf7_1 := hp25_0
    clear hpk hsb hsb0 hpk2 hsb2 hst0 hsn hst
    obtain ⟨x26, hx, h⟩ := bind_some h
    have hpk : MS w25 ([[b0_7]] ++ [[b4], [b16], M]) := hms.pick [some 1, some 0, some 2, some 3] _ rfl
    have hsb0 : ∀ x ∈ fl ([[b0_7]] ++ [[b4], [b16], M]), x ∈ fl [[b4], [b0_7], [b16], M] := pick_sub [some 1, some 0, some 2, some 3] _ rfl
    have hsb : ∀ x ∈ fl ([[b0_7]] ++ [(fl [[b4], [b16], M])]), x ∈ fl [[b4], [b0_7], [b16], M] := fun x hx => hsb0 x (fl_unfold x hx)
    have hcall := gen_Maker_From_w b0_7 a1_7 c1_7 x6.1 x24.2 (-1) ((d22_j19).length : Int) _ w25 (fl [[b4], [b16], M]) (hpk.fold (P := [[b0_7]])) (hf7_2.sub hsb) hf7_1 hx
    refine x_call 19 #[] #[] [.pointer (some ⟨b0_7, 0, none⟩), .int .i64 (-1), .int .i64 ((d22_j19).length : Int)] _ rfl rfl rfl rfl hcall ?_
    rintro v w27 ⟨rfl, he27, hp27_0⟩
    clear hcall hx
    refine ⟨.inr he27, ?_⟩
    have hpk2 : MS w25 ([[b0_7]] ++ [[b4], [b16], M]) := hms.pick [some 1, some 0, some 2, some 3] _ rfl
    have hsb2 : ∀ x ∈ fl ([[b0_7]] ++ [[b4], [b16], M]), x ∈ fl [[b4], [b0_7], [b16], M] := pick_sub [some 1, some 0, some 2, some 3] _ rfl
    have hst0 := Stp.call (LS := [[b4], [b0_7], [b16], M]) (res := []) (par := [[b0_7]]) (R := [[b4], [b16], M]) he27 (fun b hb => hsb2 b (fl_left' (P := [[b0_7]]) b hb)) (FR.nil _) (NP.init _ _) (fun x hx => hsb2 x (fl_right' (P := [[b0_7]]) x hx))
    have hsn : ∀ x ∈ fl [[b4], [b0_7], [b16], M], x ∈ fl ([] ++ ([[b0_7]] ++ [[b4], [b16], M])) := pick_sub [some 1, some 0, some 2, some 3] _ rfl
    have hst := hst0.res hsn
    replace hs_p4 := hs_p4.step hst
    replace hb4 := he27.box hb4 ((MS.outs (P := [[b0_7]]) hpk2 0 rfl) _ (List.mem_singleton.2 rfl))
    replace hs_p1_0 := hs_p1_0.step hst
    replace hf7_2 := hf7_2.step hst
    replace hb16 := he27.box hb16 ((MS.outs (P := [[b0_7]]) hpk2 1 rfl) _ (List.mem_singleton.2 rfl))
    replace hj22_j19 := hj22_j19.step hst
    replace hms := hms.ev he27
    have hPf : ∀ b ∈ fl [[b0_7]], w.heap.size ≤ b := FR.mem (ls := [[b0_7]]) (hfr.pick [some 1] _ rfl)
    replace hev := hev.then he27 (fun b hb => .inr (hPf b hb))
    replace hf7_1 := hp27_0
    clear hpk hsb hsb0 hpk2 hsb2 hst0 hsn hst
    obtain ⟨x28, hx, h⟩ := bind_some h
    have hpk : MS w27 ([[b0_7]] ++ [[b4], [b16], M]) := hms.pick [some 1, some 0, some 2, some 3] _ rfl
    have hsb0 : ∀ x ∈ fl ([[b0_7]] ++ [[b4], [b16], M]), x ∈ fl [[b4], [b0_7], [b16], M] := pick_sub [some 1, some 0, some 2, some 3] _ rfl
    have hsb : ∀ x ∈ fl ([[b0_7]] ++ [(fl [[b4], [b16], M])]), x ∈ fl [[b4], [b0_7], [b16], M] := fun x hx => hsb0 x (fl_unfold x hx)
    have hcall := law11_order_w b0_7 a1_7 c1_7 x6.1 x26.2 a22_j19 c22_j19 d22_j19 e17_j19_1 _ w27 (fl [[b4], [b16], M]) (hpk.fold (P := [[b0_7]])) (hf7_2.sub hsb) hf7_1 (hj22_j19.sub hsb) hx
    refine x_call 20 #[] #[] [.pointer (some ⟨b0_7, 0, none⟩), .agg #[.slice a22_j19 (d22_j19).length c22_j19, .int .i64 e17_j19_1]] _ rfl rfl rfl rfl hcall ?_
    rintro v w29 ⟨a0_29, c0_29, B2_29, rfl, he29, hp29_0, hmn29, hfn29, hf29_1⟩
    clear hcall hx
    refine ⟨.inr he29, ?_⟩
    have hpk2 : MS w27 ([[b0_7]] ++ [[b4], [b16], M]) := hms.pick [some 1, some 0, some 2, some 3] _ rfl
    have hsb2 : ∀ x ∈ fl ([[b0_7]] ++ [[b4], [b16], M]), x ∈ fl [[b4], [b0_7], [b16], M] := pick_sub [some 1, some 0, some 2, some 3] _ rfl
    have hst0 := Stp.call (LS := [[b4], [b0_7], [b16], M]) (res := [B2_29]) (par := [[b0_7]]) (R := [[b4], [b16], M]) he29 (fun b hb => hsb2 b (fl_left' (P := [[b0_7]]) b hb)) hfn29 (NP.init _ _) (fun x hx => hsb2 x (fl_right' (P := [[b0_7]]) x hx))
    have hsn : ∀ x ∈ fl [B2_29, [b4], [b0_7], [b16], M], x ∈ fl ([B2_29] ++ ([[b0_7]] ++ [[b4], [b16], M])) := pick_sub [some 0, some 2, some 1, some 3, some 4] _ rfl
    have hst := hst0.res hsn
    replace hs_p4 := hs_p4.step hst
    replace hb4 := he29.box hb4 ((MS.outs (P := [[b0_7]]) hpk2 0 rfl) _ (List.mem_singleton.2 rfl))
    replace hs_p1_0 := hs_p1_0.step hst
    replace hf7_2 := hf7_2.step hst
    replace hb16 := he29.box hb16 ((MS.outs (P := [[b0_7]]) hpk2 1 rfl) _ (List.mem_singleton.2 rfl))
    replace hj22_j19 := hj22_j19.step hst
    replace hms : MS w29 [B2_29, [b4], [b0_7], [b16], M] := (MS.call (P := [[b0_7]]) (R := [[b4], [b16], M]) (res := [B2_29]) (par := [[b0_7]]) hpk2 he29 hmn29 hfn29 (NP.init _ _)).pick [some 0, some 2, some 1, some 3, some 4] _ rfl
    have hPf : ∀ b ∈ fl [[b0_7]], w.heap.size ≤ b := FR.mem (ls := [[b0_7]]) (hfr.pick [some 1] _ rfl)
    have hfr2 : FR w.heap.size [B2_29, [b4], [b0_7], [b16]] := (FR.cons (fun b hb => Nat.le_trans hev.size (hfn29.at 0 rfl b hb)) (FR.cons (hfr.at 0 rfl) (FR.cons (hfr.at 1 rfl) (FR.cons (hfr.at 2 rfl) (FR.nil _)))))
    replace hev := hev.then he29 (fun b hb => .inr (hPf b hb))
    replace hfr := hfr2
    clear hfr2
    replace hf7_1 := hp29_0
    clear hpk hsb hsb0 hpk2 hsb2 hst0 hsn hst
    have hpk : MS w29 [[b4], [b0_7], [b16], M] := hms.pick [some 1, some 2, some 3, some 4] _ rfl
    have hsu : ∀ x ∈ fl [[b4], [b0_7], [b16], M], x ∈ fl [B2_29, [b4], [b0_7], [b16], M] := pick_sub [some 1, some 2, some 3, some 4] _ rfl
    replace hs_p4 := hs_p4.sub hsu
    replace hs_p1_0 := hs_p1_0.sub hsu
    replace hf7_2 := hf7_2.sub hsu
    replace hj22_j19 := hj22_j19.sub hsu
    replace hf29_1 := hf29_1.ro (plain_int _) (pick_out hms 0 rfl [some 1, some 2, some 3, some 4] [[b4], [b0_7], [b16], M] rfl rfl)
    replace hms := hpk
    replace hfr : FR w.heap.size [[b4], [b0_7], [b16]] := hfr.pick [some 1, some 2, some 3] _ rfl
    clear hpk hsu
    obtain ⟨x31, hx, h⟩ := bind_some h
    have hpk : MS w29 ([] ++ [[b4], [b0_7], [b16], M]) := hms.pick [some 0, some 1, some 2, some 3] _ rfl
    have hsb0 : ∀ x ∈ fl ([] ++ [[b4], [b0_7], [b16], M]), x ∈ fl [[b4], [b0_7], [b16], M] := pick_sub [some 0, some 1, some 2, some 3] _ rfl
    have hsb : ∀ x ∈ fl ([] ++ [(fl [[b4], [b0_7], [b16], M])]), x ∈ fl [[b4], [b0_7], [b16], M] := fun x hx => hsb0 x (fl_unfold x hx)
    have hcall := law11_exact_w a22_j19 c22_j19 d22_j19 e17_j19_1 x24.1 x26.1 a0_29 c0_29 x28.1 _ w29 (fl [[b4], [b0_7], [b16], M]) (MS.fold (P := []) hpk) (hj22_j19.sub hsb) (hf29_1.sub hsb) hx
    refine x_call 18 #[] #[] [.agg #[.slice a22_j19 (d22_j19).length c22_j19, .int .i64 e17_j19_1], .int .i64 x24.1, .int .i64 x26.1, .slice a0_29 (x28.1).length c0_29] _ rfl rfl rfl rfl hcall ?_
    rintro v w32 ⟨rfl, he32⟩
    clear hcall hx
    refine ⟨.inr (he32.nil), ?_⟩
    have hst := Stp.ext (ls := [[b4], [b0_7], [b16], M]) he32
    replace hs_p4 := hs_p4.step hst
    replace hb4 := he32.box hb4 nn
    replace hs_p1_0 := hs_p1_0.step hst
    replace hf7_1 := he32.box hf7_1 nn
    replace hf7_2 := hf7_2.step hst
    replace hb16 := he32.box hb16 nn
    replace hj22_j19 := hj22_j19.step hst
    replace hf29_1 := hf29_1.step hst
    replace hms := hms.ev he32
    replace hev := hev.ext he32
    clear hpk hsb hsb0
    refine x_pure 1 [(42, .bool (!x31))] _ _ _ (by kernel_rfl) ?_
    refine x_end rfl (k_then ?_)
    refine c_norm [(2, .int .i64 p2), (3, .int .i64 p3), (4, .slice a_p4 (p4).length c_p4), (6, .pointer (some ⟨b4, 0, none⟩)), (11, .pointer (some ⟨b0_7, 0, none⟩)), (12, .int .i64 i_s12_l11), (42, .bool (!x31))] ⟨rfl, rfl, rfl, rfl, rfl, rfl, rfl, trivial⟩ (fun J => ?_)
    refine c_cond (!x31) rfl (fun hb => ?_) (fun hb => ?_)
    · replace h := ite_t hb h
      refine c_seq (c_plain ?_)
      refine x_pure 1 [(10, .bool false)] _ _ _ (by kernel_rfl) ?_
      refine x_end rfl (k_then ?_)
      refine c_ret ?_
      refine k_block_ret ?_
      refine k_then_ret ?_
      have hx := some_inj h
      subst hx
      have hy := some_inj hn11
      subst hy
      replace h := h11
      refine k_then_ret ?_
      refine k_block_ret ?_
      refine k_then_ret ?_
      refine r_ret (r_vals [.bool false] ⟨rfl, trivial⟩ ?_)
      have hx := some_inj h
      subst hx
      have hmr : MS w32 [M] := hms.pick [some 3] _ rfl
      have hsu : ∀ x ∈ fl [M], x ∈ fl [[b4], [b0_7], [b16], M] := pick_sub [some 3] _ rfl
      exact ⟨rfl, hev⟩
    replace h := ite_f hb h
    refine c_skip ?_
    refine k_block ?_
    refine k_then ?_
    refine c_plain ?_
    refine x_pure 3 [(18, .int .i64 i_s12_l11), (19, .int .i64 (IntKind.i64.wrap (i_s12_l11 + 1))), (12, .int .i64 (IntKind.i64.wrap (i_s12_l11 + 1)))] _ _ _ (by kernel_rfl) ?_
    refine x_end rfl ?_
    have hx := some_inj h
    subst hx
    have hpk : MS w32 [[b4], [b0_7], M] := hms.pick [some 0, some 1, some 3] _ rfl
    have hsu : ∀ x ∈ fl [[b4], [b0_7], M], x ∈ fl [[b4], [b0_7], [b16], M] := pick_sub [some 0, some 1, some 3] _ rfl
    replace hs_p4 := hs_p4.sub hsu
    replace hs_p1_0 := hs_p1_0.sub hsu
    replace hf7_2 := hf7_2.sub hsu
    replace hms := hpk
    replace hfr : FR w.heap.size [[b4], [b0_7]] := hfr.pick [some 0, some 1] _ rfl
    clear hpk hsu
    exact k_then ⟨(m11, x28.2, IntKind.i64.wrap (i_s12_l11 + 1)), ⟨rfl, rfl, rfl, rfl, rfl, rfl, trivial⟩, ⟨hn11, hev, hms, hfr, hs_p4, hs_p1_0, hb4, hf7_2, hf7_1⟩, Nat.lt_succ_self _⟩
  replace h := ite_f hb h
  refine c_exit ?_
  refine k_then_exit ?_
  have hx := some_inj h
  subst hx
  have hy := some_inj hn11
  subst hy
  replace h := h11
  refine k_then_exit ?_
  refine k_block_in ?_
  refine k_then ?_
  refine c_norm [(2, .int .i64 p2), (3, .int .i64 p3), (4, .slice a_p4 (p4).length c_p4), (6, .pointer (some ⟨b4, 0, none⟩))] ⟨rfl, rfl, rfl, rfl, trivial⟩ (fun J => ?_)
  refine c_seq (c_plain ?_)
  refine x_fieldAddr (xv := .pointer (some ⟨b4, 0, none⟩)) (.pointer (some ⟨b4, 0, none⟩)) rfl rfl rfl (reads_field tfld24_0 _ _) ?_
  refine x_load (xv := .pointer (some ⟨b4, 0, none⟩)) (.slice a_p1_0 (p1_0).length c_p1_0) rfl rfl rfl (reads_box tcell22 hb4 nn 0 _ rfl) ?_
  refine x_len (vs := [.slice a_p1_0 (p1_0).length c_p1_0]) (.int .i64 ((p1_0).length : Int)) rfl rfl rfl (reads_len tsl22 _ _ _ _ _) ?_
  refine x_pure 2 [(46, .bool (decide (((p1_0).length : Int) > 30))), (47, .bool (decide (((p1_0).length : Int) > 30)))] _ _ _ (by kernel_rfl) ?_
  refine x_split 47 (decide (((p1_0).length : Int) > 30)) rfl (fun hb => ?_) (fun hb => ?_)
  · replace h := ite_t hb h
    refine x_pure 22 [(48, undef), (49, undef), (50, undef), (51, .bool true), (52, .bool true), (53, undef), (54, undef), (55, undef), (56, undef), (57, undef), (58, undef), (59, undef), (60, undef), (61, undef), (62, undef), (63, undef), (64, undef), (65, undef), (66, undef), (67, undef), (68, .bool true), (10, .bool true)] _ _ _ (by kernel_rfl) ?_
    refine x_end rfl (k_then ?_)
    refine c_norm [(10, .bool true)] ⟨rfl, trivial⟩ (fun J => ?_)
    refine c_ret ?_
    refine r_ret (r_vals [.bool true] ⟨rfl, trivial⟩ ?_)
    have hx := some_inj h
    subst hx
    have hmr : MS wl11 [M] := hms.pick [some 2] _ rfl
    have hsu : ∀ x ∈ fl [M], x ∈ fl [[b4], [b0_7], M] := pick_sub [some 2] _ rfl
    exact ⟨rfl, hev⟩
  replace h := ite_f hb h
  refine x_pure 1 [(48, .slice a_p4 (p4).length c_p4)] _ _ _ (by kernel_rfl) ?_
  refine x_len (vs := [.slice a_p4 (p4).length c_p4]) (.int .i64 ((p4).length : Int)) rfl rfl rfl (reads_len tsl37 _ _ _ _ _) ?_
  refine x_pure 3 [(50, .bool (decide (((p4).length : Int) > 30))), (51, .bool (decide (((p4).length : Int) > 30))), (52, .bool (decide (((p4).length : Int) > 30)))] _ _ _ (by kernel_rfl) ?_
  refine x_split 52 (decide (((p4).length : Int) > 30)) rfl (fun hb => ?_) (fun hb => ?_)
  · replace h := ite_t hb h
    refine x_pure 17 [(53, undef), (54, undef), (55, undef), (56, undef), (57, undef), (58, undef), (59, undef), (60, undef), (61, undef), (62, undef), (63, undef), (64, undef), (65, undef), (66, undef), (67, undef), (68, .bool true), (10, .bool true)] _ _ _ (by kernel_rfl) ?_
    refine x_end rfl (k_then ?_)
    refine c_norm [(10, .bool true)] ⟨rfl, trivial⟩ (fun J => ?_)
    refine c_ret ?_
    refine r_ret (r_vals [.bool true] ⟨rfl, trivial⟩ ?_)
    have hx := some_inj h
    subst hx
    have hmr : MS wl11 [M] := hms.pick [some 2] _ rfl
    have hsu : ∀ x ∈ fl [M], x ∈ fl [[b4], [b0_7], M] := pick_sub [some 2] _ rfl
    exact ⟨rfl, hev⟩
  replace h := ite_f hb h
  refine x_load (xv := .pointer (some ⟨b4, 0, none⟩)) (.agg #[.slice a_p1_0 (p1_0).length c_p1_0, .int .i64 p1_1]) rfl rfl rfl (reads_boxagg 0 [.slice a_p1_0 (p1_0).length c_p1_0, .int .i64 p1_1] tagg24 hb4 nn rfl) ?_
  refine x_pure 3 [(54, .int .i64 p2), (55, .int .i64 p3), (56, .slice a_p4 (p4).length c_p4)] _ _ _ (by kernel_rfl) ?_
  obtain ⟨x33, hx, h⟩ := bind_some h
  have hpk : MS wl11 ([] ++ [[b4], [b0_7], M]) := hms.pick [some 0, some 1, some 2] _ rfl
  have hsb0 : ∀ x ∈ fl ([] ++ [[b4], [b0_7], M]), x ∈ fl [[b4], [b0_7], M] := pick_sub [some 0, some 1, some 2] _ rfl
  have hsb : ∀ x ∈ fl ([] ++ [(fl [[b4], [b0_7], M])]), x ∈ fl [[b4], [b0_7], M] := fun x hx => hsb0 x (fl_unfold x hx)
  have hcall := law11_exact_w a_p1_0 c_p1_0 p1_0 p1_1 p2 p3 a_p4 c_p4 p4 _ wl11 (fl [[b4], [b0_7], M]) (MS.fold (P := []) hpk) (hs_p1_0.sub hsb) (hs_p4.sub hsb) hx
  refine x_call 18 #[] #[] [.agg #[.slice a_p1_0 (p1_0).length c_p1_0, .int .i64 p1_1], .int .i64 p2, .int .i64 p3, .slice a_p4 (p4).length c_p4] _ rfl rfl rfl rfl hcall ?_
  rintro v w34 ⟨rfl, he34⟩
  clear hcall hx
  refine ⟨.inl rfl, ?_⟩
  have hst := Stp.ext (ls := [[b4], [b0_7], M]) he34
  replace hs_p4 := hs_p4.step hst
  replace hb4 := he34.box hb4 nn
  replace hs_p1_0 := hs_p1_0.step hst
  replace hf7_1 := he34.box hf7_1 nn
  replace hf7_2 := hf7_2.step hst
  replace hms := hms.ev he34
  replace hev := hev.ext he34
  clear hpk hsb hsb0
  refine x_pure 1 [(58, .bool x33)] _ _ _ (by kernel_rfl) ?_
  refine x_split 58 x33 rfl (fun hb => ?_) (fun hb => ?_)
  · replace h := ite_t hb h
    obtain ⟨x35, hx, h⟩ := bind_some h
    have hpk : MS w34 ([] ++ [[b4], [b0_7], M]) := hms.pick [some 0, some 1, some 2] _ rfl
    have hsb0 : ∀ x ∈ fl ([] ++ [[b4], [b0_7], M]), x ∈ fl [[b4], [b0_7], M] := pick_sub [some 0, some 1, some 2] _ rfl
    have hsb : ∀ x ∈ fl ([] ++ [(fl [[b4], [b0_7], M])]), x ∈ fl [[b4], [b0_7], M] := fun x hx => hsb0 x (fl_unfold x hx)
    have hcall := law11_four_w _ w34 (fl [[b4], [b0_7], M]) (MS.fold (P := []) hpk)  hx
    refine x_call 21 #[] #[] [] _ rfl rfl rfl rfl hcall ?_
    rintro v w36 ⟨a0_36, c0_36, rfl, he36, hf36_1⟩
    clear hcall hx
    refine ⟨.inl rfl, ?_⟩
    have hst := Stp.ext (ls := [[b4], [b0_7], M]) he36
    replace hs_p4 := hs_p4.step hst
    replace hb4 := he36.box hb4 nn
    replace hs_p1_0 := hs_p1_0.step hst
    replace hf7_1 := he36.box hf7_1 nn
    replace hf7_2 := hf7_2.step hst
    replace hms := hms.ev he36
    replace hev := hev.ext he36
    have hsp : ∀ x ∈ fl [[b4], [b0_7], M], x ∈ fl ([] ++ [(fl [[b4], [b0_7], M])]) := fun x hx => fl_fold (P := []) x (pick_sup [some 0, some 1, some 2] [[b4], [b0_7], M] rfl rfl x hx)
    replace hf36_1 := hf36_1.sub hsp
    clear hpk hsb hsb0
    refine x_pure 3 [(60, .int .i64 p2), (61, .int .i64 p3), (62, .slice a_p4 (p4).length c_p4)] _ _ _ (by kernel_rfl) ?_
    obtain ⟨x38, hx, h⟩ := bind_some h
    have hpk : MS w36 ([] ++ [[b4], [b0_7], M]) := hms.pick [some 0, some 1, some 2] _ rfl
    have hsb0 : ∀ x ∈ fl ([] ++ [[b4], [b0_7], M]), x ∈ fl [[b4], [b0_7], M] := pick_sub [some 0, some 1, some 2] _ rfl
    have hsb : ∀ x ∈ fl ([] ++ [(fl [[b4], [b0_7], M])]), x ∈ fl [[b4], [b0_7], M] := fun x hx => hsb0 x (fl_unfold x hx)
    have hcall := law11_exact_w a0_36 c0_36 x35.1 x35.2 p2 p3 a_p4 c_p4 p4 _ w36 (fl [[b4], [b0_7], M]) (MS.fold (P := []) hpk) (hf36_1.sub hsb) (hs_p4.sub hsb) hx
    refine x_call 18 #[] #[] [.agg #[.slice a0_36 (x35.1).length c0_36, .int .i64 x35.2], .int .i64 p2, .int .i64 p3, .slice a_p4 (p4).length c_p4] _ rfl rfl rfl rfl hcall ?_
    rintro v w39 ⟨rfl, he39⟩
    clear hcall hx
    refine ⟨.inl rfl, ?_⟩
    have hst := Stp.ext (ls := [[b4], [b0_7], M]) he39
    replace hs_p4 := hs_p4.step hst
    replace hb4 := he39.box hb4 nn
    replace hs_p1_0 := hs_p1_0.step hst
    replace hf7_1 := he39.box hf7_1 nn
    replace hf7_2 := hf7_2.step hst
    replace hf36_1 := hf36_1.step hst
    replace hms := hms.ev he39
    replace hev := hev.ext he39
    clear hpk hsb hsb0
    refine x_pure 2 [(64, .bool x38), (65, .bool x38)] _ _ _ (by kernel_rfl) ?_
    refine x_split 65 x38 rfl (fun hb => ?_) (fun hb => ?_)
    · replace h := ite_t hb h
      obtain ⟨x40, hx, h⟩ := bind_some h
      have hcall := law11_sane_w _ w39 hx
      refine x_call 12 #[] #[] [] _ rfl rfl rfl rfl hcall ?_
      rintro v w41 ⟨rfl, he41⟩
      clear hcall hx
      refine ⟨.inl rfl, ?_⟩
      have hst := Stp.ext (ls := [[b4], [b0_7], M]) he41
      replace hs_p4 := hs_p4.step hst
      replace hb4 := he41.box hb4 nn
      replace hs_p1_0 := hs_p1_0.step hst
      replace hf7_1 := he41.box hf7_1 nn
      replace hf7_2 := hf7_2.step hst
      replace hf36_1 := hf36_1.step hst
      replace hms := hms.ev he41
      replace hev := hev.ext he41
      refine x_pure 3 [(67, .bool x40), (68, .bool x40), (10, .bool x40)] _ _ _ (by kernel_rfl) ?_
      refine x_end rfl (k_then ?_)
      refine c_norm [(10, .bool x40)] ⟨rfl, trivial⟩ (fun J => ?_)
      refine c_ret ?_
      refine r_ret (r_vals [.bool x40] ⟨rfl, trivial⟩ ?_)
      have hx := some_inj h
      subst hx
      have hmr : MS w41 [M] := hms.pick [some 2] _ rfl
      have hsu : ∀ x ∈ fl [M], x ∈ fl [[b4], [b0_7], M] := pick_sub [some 2] _ rfl
      exact ⟨rfl, hev⟩
    replace h := ite_f hb h
    refine x_pure 4 [(66, undef), (67, .bool false), (68, .bool false), (10, .bool false)] _ _ _ (by kernel_rfl) ?_
    refine x_end rfl (k_then ?_)
    refine c_norm [(10, .bool false)] ⟨rfl, trivial⟩ (fun J => ?_)
    refine c_ret ?_
    refine r_ret (r_vals [.bool false] ⟨rfl, trivial⟩ ?_)
    have hx := some_inj h
    subst hx
    have hmr : MS w39 [M] := hms.pick [some 2] _ rfl
    have hsu : ∀ x ∈ fl [M], x ∈ fl [[b4], [b0_7], M] := pick_sub [some 2] _ rfl
    exact ⟨rfl, hev⟩
  replace h := ite_f hb h
  refine x_pure 11 [(59, undef), (60, undef), (61, undef), (62, undef), (63, undef), (64, .bool false), (65, .bool false), (66, undef), (67, .bool false), (68, .bool false), (10, .bool false)] _ _ _ (by kernel_rfl) ?_
  refine x_end rfl (k_then ?_)
  refine c_norm [(10, .bool false)] ⟨rfl, trivial⟩ (fun J => ?_)
  refine c_ret ?_
  refine r_ret (r_vals [.bool false] ⟨rfl, trivial⟩ ?_)
  have hx := some_inj h
  subst hx
  have hmr : MS w34 [M] := hms.pick [some 2] _ rfl
  have hsu : ∀ x ∈ fl [M], x ∈ fl [[b4], [b0_7], M] := pick_sub [some 2] _ rfl
  exact ⟨rfl, hev⟩
end Go.Proofs.Ytacimonplnlmgaa
