/- Walks, printed by program: each function returns what the partial function of the same name returns. Conditions: those of each theorem. -/
import Derived.Test.YtcignnfdpgeogaaGT
import Derived.Test.YtcignnfdpgeogaaGcertificate
import Derived.Test.YtcignnfdpgeogaaGgen
import Derived.Test.YtcignnfdpgeogaaGlaw15sane
import Derived.Test.YtcignnfdpgeogaaGlaw15spoil
import Derived.Test.YtcignnfdpgeogaaGr15
set_option linter.unusedVariables false
set_option linter.unusedSimpArgs false
set_option maxRecDepth 4000
namespace Go.Proofs.Ytcignnfdpgeogaa
open Go Go.V Go.Proofs
def law15_CertificateExact_J60 (i_s8_l14 : Int) (x55 : ((Int × (List Int)) × (List Int)) × Int) (e11_j60_1 : Int) (d63_j60 : List (Int × Int × Int × Int)) (e20_j60_1 : Int) : Option (Step (Int × Int) (Unit ⊕ Unit)) :=
((certificate_Check d63_j60 e20_j60_1 x55.1.1.1 x55.1.1.2 x55.1.2).bind fun x65 =>
((r15_Check d63_j60 e20_j60_1 x55.1.1.1 x55.1.1.2 x55.1.2).bind fun x67 =>
(if (x65 != x67) = true then
some (.done (.inl ()))
else
some (.next (e11_j60_1, IntKind.i64.wrap (i_s8_l14 + 1))))))

def law15_CertificateExact_J70 (p1_0 : List (Int × Int × Int × Int)) (p1_1 : Int) (p2_0_0 : Int) (p2_0_1 : List Int) (p2_1 : List Int) (t90__s90_j70 : Bool) : Option Bool :=
(if t90__s90_j70 = true then
((law15_sane).bind fun x71 =>
some x71)
else
((certificate_Check p1_0 p1_1 p2_0_0 p2_0_1 p2_1).bind fun x73 =>
((r15_Check p1_0 p1_1 p2_0_0 p2_0_1 p2_1).bind fun x75 =>
(if (x73 == x75) = true then
((law15_sane).bind fun x77 =>
some x77)
else
some false))))

def law15_CertificateExact_L14 (x9 : ((List Int) × Int)) (s : Int × Int) : Option (Step (Int × Int) (Unit ⊕ Unit)) :=
match s with
| (e11_l14_1, i_s8_l14) =>
(if (decide (i_s8_l14 < 4)) = true then
((gen_Maker_Job x9.1 e11_l14_1 12).bind fun x16 =>
((certificate_Make x16.1.1 x16.1.2).bind fun x22 =>
((r15_Make x16.1.1 x16.1.2).bind fun x29 =>
((gen_Proofs x22.1.1.1 x22.1.1.2 x22.1.2 x29.1.1.1 x29.1.1.2 x29.1.2).bind fun x37 =>
(if (!x37) = true then
some (.done (.inl ()))
else
(if (x22.2 != x29.2) = true then
some (.done (.inl ()))
else
((law15_spoil x9.1 x16.2 x29.1.1.1 x29.1.1.2 x29.1.2).bind fun x39 =>
((certificate_Check x16.1.1 x16.1.2 x29.1.1.1 x29.1.1.2 x29.1.2).bind fun x47 =>
((r15_Check x16.1.1 x16.1.2 x29.1.1.1 x29.1.1.2 x29.1.2).bind fun x49 =>
(if (x47 != x49) = true then
some (.done (.inl ()))
else
((certificate_Check x16.1.1 x16.1.2 x39.1.1.1 x39.1.1.2 x39.1.2).bind fun x51 =>
((r15_Check x16.1.1 x16.1.2 x39.1.1.1 x39.1.1.2 x39.1.2).bind fun x53 =>
(if (x51 != x53) = true then
some (.done (.inl ()))
else
((law15_spoil x9.1 x39.2 x39.1.1.1 x39.1.1.2 x39.1.2).bind fun x55 =>
(if (i_s8_l14 == 3) = true then
((gen_Maker_SpoilJob x9.1 x55.2 x16.1.1 x16.1.2).bind fun x61 =>
law15_CertificateExact_J60 i_s8_l14 x55 x61.2 x61.1.1 x61.1.2)
else
law15_CertificateExact_J60 i_s8_l14 x55 x55.2 x16.1.1 x16.1.2)))))))))))))))
else
some (.done (.inr ())))

def law15_CertificateExact (p0 : List Int) (p1_0 : List (Int × Int × Int × Int)) (p1_1 : Int) (p2_0_0 : Int) (p2_0_1 : List Int) (p2_1 : List Int) : Option Bool :=
((gen_New p0).bind fun x9 =>
((loop (law15_CertificateExact_L14 x9) (x9.2, 0)).bind fun d => match d with
| (.inl _) => some false
| (.inr _) => (if (decide (((p1_0).length : Int) > 30)) = true then
law15_CertificateExact_J70 p1_0 p1_1 p2_0_0 p2_0_1 p2_1 true
else
law15_CertificateExact_J70 p1_0 p1_1 p2_0_0 p2_0_1 p2_1 (decide ((IntKind.i64.wrap (((p2_0_1).length : Int) + ((p2_1).length : Int))) > 60)))))

theorem law15_CertificateExact_w (a_p0 : Option Addr) (c_p0 : Nat) (p0 : List Int) (a_p1_0 : Option Addr) (c_p1_0 : Nat) (p1_0 : List (Int × Int × Int × Int)) (p1_1 : Int) (p2_0_0 : Int) (a_p2_0_1 : Option Addr) (c_p2_0_1 : Nat) (p2_0_1 : List Int) (a_p2_1 : Option Addr) (c_p2_1 : Nat) (p2_1 : List Int) (r : Bool) (w : World) (M : List Nat) (hms : MS w [M]) (hs_p0 : SlR (eInt .i64) w (fl [M]) a_p0 c_p0 p0) (hs_p1_0 : SlR (eIt4) w (fl [M]) a_p1_0 c_p1_0 p1_0) (hs_p2_0_1 : SlR (eInt .i64) w (fl [M]) a_p2_0_1 c_p2_0_1 p2_0_1) (hs_p2_1 : SlR (eInt .i64) w (fl [M]) a_p2_1 c_p2_1 p2_1) (h : law15_CertificateExact p0 p1_0 p1_1 p2_0_0 p2_0_1 p2_1 = some r) : CallVC Try.prog 3 [.slice a_p0 (p0).length c_p0, .agg #[.slice a_p1_0 (p1_0).length c_p1_0, Vi p1_1], .agg #[Vi p2_0_0, .slice a_p2_0_1 (p2_0_1).length c_p2_0_1, .slice a_p2_1 (p2_1).length c_p2_1]] w fun v w' => v = .bool r ∧ Ev [] w w' := by
 refine calls_vc hmx Try.func3 (by kernel_rfl) rfl (rs := [.tmp 6]) rfl (by kernel_rfl) (args := [.slice a_p0 (p0).length c_p0, .agg #[.slice a_p1_0 (p1_0).length c_p1_0, Vi p1_1], .agg #[Vi p2_0_0, .slice a_p2_0_1 (p2_0_1).length c_p2_0_1, .slice a_p2_1 (p2_1).length c_p2_1]]) rfl ?_
 have hev : Ev [] w w := Ev.refl _ _
 have hfr : FR w.heap.size [] := FR.nil _
 refine c_sp ?_
 refine x_box (xv := .agg #[.slice a_p1_0 (p1_0).length c_p1_0, Vi p1_1]) rfl rfl rfl (fun b5 w5 hq5 hb5 he5 hz5 => ?_)
 replace hb5 : w5.heap[b5]? = some (.cells #[.slice a_p1_0 (p1_0).length c_p1_0, Vi p1_1] 25 (0, 0)) := hb5
 refine inl1 ?_
 have hst := Stp.box (ls := [M]) he5 hq5
 replace hs_p0 := hs_p0.step hst
 replace hs_p1_0 := hs_p1_0.step hst
 replace hs_p2_0_1 := hs_p2_0_1.step hst
 replace hs_p2_1 := hs_p2_1.step hst
 replace hms := hms.box he5 hq5 hb5
 replace hfr := hfr.box hev.size hq5
 replace hev := hev.ext he5
 refine x_box (xv := .agg #[Vi p2_0_0, .slice a_p2_0_1 (p2_0_1).length c_p2_0_1, .slice a_p2_1 (p2_1).length c_p2_1]) rfl rfl rfl (fun b7 w7 hq7 hb7 he7 hz7 => ?_)
 replace hb7 : w7.heap[b7]? = some (.cells #[Vi p2_0_0, .slice a_p2_0_1 (p2_0_1).length c_p2_0_1, .slice a_p2_1 (p2_1).length c_p2_1] 29 (0, 0)) := hb7
 refine inl1 ?_
 have hst := Stp.box (ls := [[b5], M]) he7 hq7
 replace hs_p0 := hs_p0.step hst
 replace hs_p1_0 := hs_p1_0.step hst
 replace hs_p2_0_1 := hs_p2_0_1.step hst
 replace hs_p2_1 := hs_p2_1.step hst
 replace hb5 := he7.box hb5 nn
 replace hms := hms.box he7 hq7 hb7
 replace hfr := hfr.box hev.size hq7
 replace hev := hev.ext he7
 refine x_pure 1 [(6, .bool false)] _ _ _ (by kernel_rfl) ?_
 refine x_ek ?_
 refine c_sp ?_
 refine x_pure 1 [(15, .slice a_p0 (p0).length c_p0)] _ _ _ (by kernel_rfl) ?_
 obtain ⟨x9, hx, h⟩ := bind_some h
 have hpk : MS w7 ([] ++ [[b7], [b5], M]) := hms.pick [some 0, some 1, some 2] _ rfl
 have hsb0 : ∀ x ∈ fl ([] ++ [[b7], [b5], M]), x ∈ fl [[b7], [b5], M] := pick_sub [some 0, some 1, some 2] _ rfl
 have hsb : ∀ x ∈ fl ([] ++ [(fl [[b7], [b5], M])]), x ∈ fl [[b7], [b5], M] := fun x hx => hsb0 x (fl_unfold x hx)
 have hcall := gen_New_w a_p0 c_p0 p0 _ w7 (fl [[b7], [b5], M]) (MS.fold (P := []) hpk) (hs_p0.sub hsb) hx
 refine x_call 8 #[] #[] [.slice a_p0 (p0).length c_p0] _ rfl rfl rfl rfl hcall ?_
 rintro v w10 ⟨b0_10, a1_10, c1_10, rfl, he10, hmn10, hfn10, hf10_1, hf10_2⟩
 clear hcall hx
 refine inl1 ?_
 have hpk2 : MS w7 ([] ++ [[b7], [b5], M]) := hms.pick [some 0, some 1, some 2] _ rfl
 have hsb2 : ∀ x ∈ fl ([] ++ [[b7], [b5], M]), x ∈ fl [[b7], [b5], M] := pick_sub [some 0, some 1, some 2] _ rfl
 have hst0 := Stp.call (LS := [[b7], [b5], M]) (res := [[b0_10]]) (par := []) (R := [[b7], [b5], M]) he10 (fun b hb => hsb2 b (fl_left' (P := []) b hb)) hfn10 (NP.init _ _) (fun x hx => hsb2 x (fl_right' (P := []) x hx))
 have hsn : ∀ x ∈ fl [[b0_10], [b7], [b5], M], x ∈ fl ([[b0_10]] ++ ([] ++ [[b7], [b5], M])) := pick_sub [some 0, some 1, some 2, some 3] _ rfl
 have hst := hst0.res hsn
 replace hs_p0 := hs_p0.step hst
 replace hs_p1_0 := hs_p1_0.step hst
 replace hs_p2_0_1 := hs_p2_0_1.step hst
 replace hs_p2_1 := hs_p2_1.step hst
 replace hb5 := he10.box hb5 ((MS.outs (P := []) hpk2 1 rfl) _ mem1)
 replace hb7 := he10.box hb7 ((MS.outs (P := []) hpk2 0 rfl) _ mem1)
 replace hms : MS w10 [[b0_10], [b7], [b5], M] := (MS.call (P := []) (R := [[b7], [b5], M]) (res := [[b0_10]]) (par := []) hpk2 he10 hmn10 hfn10 (NP.init _ _)).pick [some 0, some 1, some 2, some 3] _ rfl
 have hfr2 : FR w.heap.size [[b0_10], [b7], [b5]] := (FR.cons (fun b hb => Nat.le_trans hev.size (hfn10.at 0 rfl b hb)) (FR.cons (hfr.at 0 rfl) (FR.cons (hfr.at 1 rfl) (FR.nil _))))
 replace hev := hev.ext he10
 replace hfr := hfr2
 clear hfr2
 have hsp : ∀ x ∈ fl [[b0_10], [b7], [b5], M], x ∈ fl ([[b0_10]] ++ ([] ++ [(fl [[b7], [b5], M])])) := fun x hx => fl_tot (res := [[b0_10]]) (par := []) (R := [[b7], [b5], M]) x (hsn x hx)
 replace hf10_2 := hf10_2.sub hsp
 clear hpk hsb hsb0 hpk2 hsb2 hst0 hsn hst
 refine x_pure 1 [(7, Vp b0_10 0)] _ _ _ (by kernel_rfl) ?_
 refine x_ek ?_
 refine c_seq ?_
 refine c_sp ?_
 refine x_pure 1 [(8, Vi 0)] _ _ _ (by kernel_rfl) ?_
 refine x_ek ?_
 refine c_block ?_
 have hpk : MS w10 [[b5], [b7], [b0_10], M] := hms.pick [some 2, some 1, some 0, some 3] _ rfl
 have hsu : ∀ x ∈ fl [[b5], [b7], [b0_10], M], x ∈ fl [[b0_10], [b7], [b5], M] := pick_sub [some 2, some 1, some 0, some 3] _ rfl
 replace hs_p1_0 := hs_p1_0.sub hsu
 replace hs_p2_0_1 := hs_p2_0_1.sub hsu
 replace hs_p2_1 := hs_p2_1.sub hsu
 replace hf10_2 := hf10_2.sub hsu
 replace hms := hpk
 replace hfr : FR w.heap.size [[b5], [b7], [b0_10]] := hfr.pick [some 2, some 1, some 0] _ rfl
 clear hpk hsu
 obtain ⟨d14, hd14, h14⟩ := bind_some h
 obtain ⟨m14, hd14⟩ := loop_some hd14
 refine c_loop (loop_rule hmx (σ := Nat × Int × Int) (fun s => match s with | (_, e11_l14_1, i_s8_l14) => [(4, Vp b5 0), (5, Vp b7 0), (7, Vp b0_10 0), (8, Vi i_s8_l14)]) (fun s w' => match s with | (m, e11_l14_1, i_s8_l14) => loopN (law15_CertificateExact_L14 x9) m (e11_l14_1, i_s8_l14) = some d14 ∧ Ev [] w w' ∧ MS w' [[b5], [b7], [b0_10], M] ∧ FR w.heap.size [[b5], [b7], [b0_10]] ∧ SlR (eIt4) w' (fl [[b5], [b7], [b0_10], M]) a_p1_0 c_p1_0 p1_0 ∧ w'.heap[b5]? = some (.cells #[.slice a_p1_0 (p1_0).length c_p1_0, Vi p1_1] 25 (0, 0)) ∧ SlR (eInt .i64) w' (fl [[b5], [b7], [b0_10], M]) a_p2_0_1 c_p2_0_1 p2_0_1 ∧ SlR (eInt .i64) w' (fl [[b5], [b7], [b0_10], M]) a_p2_1 c_p2_1 p2_1 ∧ w'.heap[b7]? = some (.cells #[Vi p2_0_0, .slice a_p2_0_1 (p2_0_1).length c_p2_0_1, .slice a_p2_1 (p2_1).length c_p2_1] 29 (0, 0)) ∧ SlR (eInt .i64) w' (fl [[b5], [b7], [b0_10], M]) a1_10 c1_10 x9.1 ∧ w'.heap[b0_10]? = some (.cells #[.slice a1_10 (x9.1).length c1_10, Vi e11_l14_1] 65 (0, 0))) (fun s => s.1) (m14, x9.2, 0) ⟨rfl, rfl, rfl, rfl, trivial⟩ ⟨hd14, hev, hms, hfr, hs_p1_0, hb5, hs_p2_0_1, hs_p2_1, hb7, hf10_2, hf10_1⟩ ?_)
 rintro ⟨m14, e11_l14_1, i_s8_l14⟩ J wl14 ⟨hn14, hev, hms, hfr, hs_p1_0, hb5, hs_p2_0_1, hs_p2_1, hb7, hf10_2, hf10_1⟩
 rcases m14 with _ | m14
 · exact (loopN_zero hn14).elim
 obtain ⟨t14, h, hn14⟩ := bind_some hn14
 refine c_seq ?_
 refine c_sp ?_
 refine x_pure 2 [(17, Vi i_s8_l14), (18, .bool (decide (i_s8_l14 < 4)))] _ _ _ (by kernel_rfl) ?_
 refine x_ek ?_
 refine c_norm [(4, Vp b5 0), (5, Vp b7 0), (7, Vp b0_10 0), (8, Vi i_s8_l14), (18, .bool (decide (i_s8_l14 < 4)))] ⟨rfl, rfl, rfl, rfl, rfl, trivial⟩ (fun J => ?_)
 refine c_cond (decide (i_s8_l14 < 4)) rfl (fun hb => ?_) (fun hb => ?_)
 · replace h := ite_t hb h
   refine c_skip ?_
   refine k_then ?_
   refine c_seq ?_
   refine c_block ?_
   refine c_sp ?_
   refine x_pure 1 [(21, Vp b0_10 0)] _ _ _ (by kernel_rfl) ?_
   obtain ⟨x16, hx, h⟩ := bind_some h
   have hpk : MS wl14 ([[b0_10]] ++ [[b5], [b7], M]) := hms.pick [some 2, some 0, some 1, some 3] _ rfl
   have hsb0 : ∀ x ∈ fl ([[b0_10]] ++ [[b5], [b7], M]), x ∈ fl [[b5], [b7], [b0_10], M] := pick_sub [some 2, some 0, some 1, some 3] _ rfl
   have hsb : ∀ x ∈ fl ([[b0_10]] ++ [(fl [[b5], [b7], M])]), x ∈ fl [[b5], [b7], [b0_10], M] := fun x hx => hsb0 x (fl_unfold x hx)
   have hcall := gen_Maker_Job_w b0_10 a1_10 c1_10 x9.1 e11_l14_1 12 _ wl14 (fl [[b5], [b7], M]) (hpk.fold (P := [[b0_10]])) (hf10_2.sub hsb) hf10_1 hx
   refine x_call 9 #[] #[] [Vp b0_10 0, Vi 12] _ rfl rfl rfl rfl hcall ?_
   rintro v w17 ⟨a0_17, c0_17, rfl, he17, hp17_0, hmn17, hfn17, hf17_1⟩
   clear hcall hx
   refine inl1 ?_
   have hpk2 : MS wl14 ([[b0_10]] ++ [[b5], [b7], M]) := hms.pick [some 2, some 0, some 1, some 3] _ rfl
   have hsb2 : ∀ x ∈ fl ([[b0_10]] ++ [[b5], [b7], M]), x ∈ fl [[b5], [b7], [b0_10], M] := pick_sub [some 2, some 0, some 1, some 3] _ rfl
   have hst0 := Stp.call (LS := [[b5], [b7], [b0_10], M]) (res := [blk a0_17]) (par := [[b0_10]]) (R := [[b5], [b7], M]) he17 (fun b hb => hsb2 b (fl_left' (P := [[b0_10]]) b hb)) hfn17 (NP.init _ _) (fun x hx => hsb2 x (fl_right' (P := [[b0_10]]) x hx))
   have hsn : ∀ x ∈ fl [blk a0_17, [b5], [b7], [b0_10], M], x ∈ fl ([blk a0_17] ++ ([[b0_10]] ++ [[b5], [b7], M])) := pick_sub [some 0, some 2, some 3, some 1, some 4] _ rfl
   have hst := hst0.res hsn
   replace hb5 := he17.box hb5 ((MS.outs (P := [[b0_10]]) hpk2 0 rfl) _ mem1)
   replace hs_p1_0 := hs_p1_0.step hst
   replace hb7 := he17.box hb7 ((MS.outs (P := [[b0_10]]) hpk2 1 rfl) _ mem1)
   replace hs_p2_0_1 := hs_p2_0_1.step hst
   replace hs_p2_1 := hs_p2_1.step hst
   replace hf10_2 := hf10_2.step hst
   replace hms : MS w17 [blk a0_17, [b5], [b7], [b0_10], M] := (MS.call (P := [[b0_10]]) (R := [[b5], [b7], M]) (res := [blk a0_17]) (par := [[b0_10]]) hpk2 he17 hmn17 hfn17 (NP.init _ _)).pick [some 0, some 2, some 3, some 1, some 4] _ rfl
   have hPf : ∀ b ∈ fl [[b0_10]], w.heap.size ≤ b := FR.mem (ls := [[b0_10]]) (hfr.pick [some 2] _ rfl)
   have hfr2 : FR w.heap.size [blk a0_17, [b5], [b7], [b0_10]] := (FR.cons (fun b hb => Nat.le_trans hev.size (hfn17.at 0 rfl b hb)) (FR.cons (hfr.at 0 rfl) (FR.cons (hfr.at 1 rfl) (FR.cons (hfr.at 2 rfl) (FR.nil _)))))
   replace hev := hev.then he17 (fun b hb => .inr (hPf b hb))
   replace hfr := hfr2
   clear hfr2
   replace hf10_1 := hp17_0
   replace hf17_1 := OwnS.plain (M' := fl [blk a0_17, [b5], [b7], [b0_10], M]) (plain_prod (plain_int _) (plain_prod (plain_int _) (plain_prod (plain_int _) (plain_int _)))) hf17_1
   clear hpk hsb hsb0 hpk2 hsb2 hst0 hsn hst
   have hpk : MS w17 [[b5], [b7], [b0_10], M] := hms.pick [some 1, some 2, some 3, some 4] _ rfl
   have hsu : ∀ x ∈ fl [[b5], [b7], [b0_10], M], x ∈ fl [blk a0_17, [b5], [b7], [b0_10], M] := pick_sub [some 1, some 2, some 3, some 4] _ rfl
   replace hs_p1_0 := hs_p1_0.sub hsu
   replace hs_p2_0_1 := hs_p2_0_1.sub hsu
   replace hs_p2_1 := hs_p2_1.sub hsu
   replace hf10_2 := hf10_2.sub hsu
   replace hf17_1 := hf17_1.ro hsu (pick_out hms 0 rfl [some 1, some 2, some 3, some 4] [[b5], [b7], [b0_10], M] rfl rfl)
   replace hms := hpk
   replace hfr : FR w.heap.size [[b5], [b7], [b0_10]] := hfr.pick [some 1, some 2, some 3] _ rfl
   clear hpk hsu
   refine x_alloc (z := .agg #[.slice none 0 0, Vi 0]) rfl rfl (by kernel_rfl) (fun b19 w19 hq19 hb19 he19 hz19 => ?_)
   replace hb19 : w19.heap[b19]? = some (.cells #[.slice none 0 0, Vi 0] 25 (0, 0)) := hb19
   refine inl1 ?_
   have hst := Stp.box (ls := [[b5], [b7], [b0_10], M]) he19 hq19
   replace hb5 := he19.box hb5 nn
   replace hs_p1_0 := hs_p1_0.step hst
   replace hb7 := he19.box hb7 nn
   replace hs_p2_0_1 := hs_p2_0_1.step hst
   replace hs_p2_1 := hs_p2_1.step hst
   replace hf10_1 := he19.box hf10_1 nn
   replace hf10_2 := hf10_2.step hst
   replace hf17_1 := hf17_1.step hst
   replace hms := hms.box he19 hq19 hb19
   replace hfr := hfr.box hev.size hq19
   replace hev := hev.ext he19
   obtain ⟨w21, hr21, hb21, he21⟩ := store_boxagg 0 [.slice a0_17 (x16.1.1).length c0_17, Vi x16.1.2] #[.slice a0_17 (x16.1.1).length c0_17, Vi x16.1.2] tagg25 hb19 rfl rfl rfl
   refine x_store w21 (xv := Vp b19 0) (yv := .agg #[.slice a0_17 (x16.1.1).length c0_17, Vi x16.1.2]) rfl rfl rfl rfl hr21 ?_
   refine inl1 ?_
   have hst := Stp.ev' (ls := [[b19], [b5], [b7], [b0_10], M]) he21 (mem_flat 0 rfl)
   replace hb5 := he21.box hb5 (hms.apart 1 0 rfl rfl rfl _ mem1)
   replace hs_p1_0 := hs_p1_0.step hst
   replace hb7 := he21.box hb7 (hms.apart 2 0 rfl rfl rfl _ mem1)
   replace hs_p2_0_1 := hs_p2_0_1.step hst
   replace hs_p2_1 := hs_p2_1.step hst
   replace hf10_1 := he21.box hf10_1 (hms.apart 3 0 rfl rfl rfl _ mem1)
   replace hf10_2 := hf10_2.step hst
   replace hf17_1 := hf17_1.step hst
   replace hms := hms.ev he21
   replace hev := hev.then he21 (fun b hb => .inr (hfr.at 0 rfl b hb))
   replace hb19 := hb21
   refine x_ek ?_
   refine c_sp ?_
   refine x_load (xv := Vp b19 0) (.agg #[.slice a0_17 (x16.1.1).length c0_17, Vi x16.1.2]) rfl rfl rfl (reads_boxagg 0 [.slice a0_17 (x16.1.1).length c0_17, Vi x16.1.2] tagg25 hb19 nn rfl) ?_
   obtain ⟨x22, hx, h⟩ := bind_some h
   have hpk : MS w21 ([] ++ [[b19], [b5], [b7], [b0_10], M]) := hms.pick [some 0, some 1, some 2, some 3, some 4] _ rfl
   have hsb0 : ∀ x ∈ fl ([] ++ [[b19], [b5], [b7], [b0_10], M]), x ∈ fl [[b19], [b5], [b7], [b0_10], M] := pick_sub [some 0, some 1, some 2, some 3, some 4] _ rfl
   have hsb : ∀ x ∈ fl ([] ++ [(fl [[b19], [b5], [b7], [b0_10], M])]), x ∈ fl [[b19], [b5], [b7], [b0_10], M] := fun x hx => hsb0 x (fl_unfold x hx)
   have hcall := certificate_Make_w a0_17 c0_17 x16.1.1 x16.1.2 _ w21 (fl [[b19], [b5], [b7], [b0_10], M]) (MS.fold (P := []) hpk) (hf17_1.sub hsb) hx
   refine x_call 10 #[] #[] [.agg #[.slice a0_17 (x16.1.1).length c0_17, Vi x16.1.2]] _ rfl rfl rfl rfl hcall ?_
   rintro v w23 ⟨a0_23, c0_23, a2_23, c2_23, rfl, he23, hmn23, hfn23, hf23_1, hf23_2⟩
   clear hcall hx
   refine inl1 ?_
   have hpk2 : MS w21 ([] ++ [[b19], [b5], [b7], [b0_10], M]) := hms.pick [some 0, some 1, some 2, some 3, some 4] _ rfl
   have hsb2 : ∀ x ∈ fl ([] ++ [[b19], [b5], [b7], [b0_10], M]), x ∈ fl [[b19], [b5], [b7], [b0_10], M] := pick_sub [some 0, some 1, some 2, some 3, some 4] _ rfl
   have hst0 := Stp.call (LS := [[b19], [b5], [b7], [b0_10], M]) (res := [blk a0_23, blk a2_23]) (par := []) (R := [[b19], [b5], [b7], [b0_10], M]) he23 (fun b hb => hsb2 b (fl_left' (P := []) b hb)) hfn23 (NP.init _ _) (fun x hx => hsb2 x (fl_right' (P := []) x hx))
   have hsn : ∀ x ∈ fl [blk a0_23, blk a2_23, [b19], [b5], [b7], [b0_10], M], x ∈ fl ([blk a0_23, blk a2_23] ++ ([] ++ [[b19], [b5], [b7], [b0_10], M])) := pick_sub [some 0, some 1, some 2, some 3, some 4, some 5, some 6] _ rfl
   have hst := hst0.res hsn
   replace hb5 := he23.box hb5 ((MS.outs (P := []) hpk2 1 rfl) _ mem1)
   replace hs_p1_0 := hs_p1_0.step hst
   replace hb7 := he23.box hb7 ((MS.outs (P := []) hpk2 2 rfl) _ mem1)
   replace hs_p2_0_1 := hs_p2_0_1.step hst
   replace hs_p2_1 := hs_p2_1.step hst
   replace hf10_1 := he23.box hf10_1 ((MS.outs (P := []) hpk2 3 rfl) _ mem1)
   replace hf10_2 := hf10_2.step hst
   replace hf17_1 := hf17_1.step hst
   replace hb19 := he23.box hb19 ((MS.outs (P := []) hpk2 0 rfl) _ mem1)
   replace hms : MS w23 [blk a0_23, blk a2_23, [b19], [b5], [b7], [b0_10], M] := (MS.call (P := []) (R := [[b19], [b5], [b7], [b0_10], M]) (res := [blk a0_23, blk a2_23]) (par := []) hpk2 he23 hmn23 hfn23 (NP.init _ _)).pick [some 0, some 1, some 2, some 3, some 4, some 5, some 6] _ rfl
   have hfr2 : FR w.heap.size [blk a0_23, blk a2_23, [b19], [b5], [b7], [b0_10]] := (FR.cons (fun b hb => Nat.le_trans hev.size (hfn23.at 0 rfl b hb)) (FR.cons (fun b hb => Nat.le_trans hev.size (hfn23.at 1 rfl b hb)) (FR.cons (hfr.at 0 rfl) (FR.cons (hfr.at 1 rfl) (FR.cons (hfr.at 2 rfl) (FR.cons (hfr.at 3 rfl) (FR.nil _)))))))
   replace hev := hev.ext he23
   replace hfr := hfr2
   clear hfr2
   replace hf23_1 := OwnS.plain (M' := fl [blk a0_23, blk a2_23, [b19], [b5], [b7], [b0_10], M]) (plain_int _) hf23_1
   replace hf23_2 := OwnS.plain (M' := fl [blk a0_23, blk a2_23, [b19], [b5], [b7], [b0_10], M]) (plain_int _) hf23_2
   clear hpk hsb hsb0 hpk2 hsb2 hst0 hsn hst
   have hpk : MS w23 [blk a2_23, [b19], [b5], [b7], [b0_10], M] := hms.pick [some 1, some 2, some 3, some 4, some 5, some 6] _ rfl
   have hsu : ∀ x ∈ fl [blk a2_23, [b19], [b5], [b7], [b0_10], M], x ∈ fl [blk a0_23, blk a2_23, [b19], [b5], [b7], [b0_10], M] := pick_sub [some 1, some 2, some 3, some 4, some 5, some 6] _ rfl
   replace hs_p1_0 := hs_p1_0.sub hsu
   replace hs_p2_0_1 := hs_p2_0_1.sub hsu
   replace hs_p2_1 := hs_p2_1.sub hsu
   replace hf10_2 := hf10_2.sub hsu
   replace hf17_1 := hf17_1.sub hsu
   replace hf23_1 := hf23_1.ro hsu (pick_out hms 0 rfl [some 1, some 2, some 3, some 4, some 5, some 6] [blk a2_23, [b19], [b5], [b7], [b0_10], M] rfl rfl)
   replace hf23_2 := hf23_2.sub hsu
   replace hms := hpk
   replace hfr : FR w.heap.size [blk a2_23, [b19], [b5], [b7], [b0_10]] := hfr.pick [some 1, some 2, some 3, some 4, some 5] _ rfl
   clear hpk hsu
   have hpk : MS w23 [[b19], [b5], [b7], [b0_10], M] := hms.pick [some 1, some 2, some 3, some 4, some 5] _ rfl
   have hsu : ∀ x ∈ fl [[b19], [b5], [b7], [b0_10], M], x ∈ fl [blk a2_23, [b19], [b5], [b7], [b0_10], M] := pick_sub [some 1, some 2, some 3, some 4, some 5] _ rfl
   replace hs_p1_0 := hs_p1_0.sub hsu
   replace hs_p2_0_1 := hs_p2_0_1.sub hsu
   replace hs_p2_1 := hs_p2_1.sub hsu
   replace hf10_2 := hf10_2.sub hsu
   replace hf17_1 := hf17_1.sub hsu
   replace hf23_1 := hf23_1.sub hsu
   replace hf23_2 := hf23_2.ro hsu (pick_out hms 0 rfl [some 1, some 2, some 3, some 4, some 5] [[b19], [b5], [b7], [b0_10], M] rfl rfl)
   replace hms := hpk
   replace hfr : FR w.heap.size [[b19], [b5], [b7], [b0_10]] := hfr.pick [some 1, some 2, some 3, some 4] _ rfl
   clear hpk hsu
   refine x_pure 3 [(23, .tuple #[.agg #[Vi x22.1.1.1, .slice a0_23 (x22.1.1.2).length c0_23, .slice a2_23 (x22.1.2).length c2_23], Vi x22.2]), (26, .agg #[Vi x22.1.1.1, .slice a0_23 (x22.1.1.2).length c0_23, .slice a2_23 (x22.1.2).length c2_23]), (27, Vi x22.2)] _ _ _ (by kernel_rfl) ?_
   refine x_alloc (z := .agg #[Vi 0, .slice none 0 0, .slice none 0 0]) rfl rfl (by kernel_rfl) (fun b26 w26 hq26 hb26 he26 hz26 => ?_)
   replace hb26 : w26.heap[b26]? = some (.cells #[Vi 0, .slice none 0 0, .slice none 0 0] 29 (0, 0)) := hb26
   refine inl1 ?_
   have hst := Stp.box (ls := [[b19], [b5], [b7], [b0_10], M]) he26 hq26
   replace hb5 := he26.box hb5 nn
   replace hs_p1_0 := hs_p1_0.step hst
   replace hb7 := he26.box hb7 nn
   replace hs_p2_0_1 := hs_p2_0_1.step hst
   replace hs_p2_1 := hs_p2_1.step hst
   replace hf10_1 := he26.box hf10_1 nn
   replace hf10_2 := hf10_2.step hst
   replace hf17_1 := hf17_1.step hst
   replace hb19 := he26.box hb19 nn
   replace hf23_1 := hf23_1.step hst
   replace hf23_2 := hf23_2.step hst
   replace hms := hms.box he26 hq26 hb26
   replace hfr := hfr.box hev.size hq26
   replace hev := hev.ext he26
   obtain ⟨w28, hr28, hb28, he28⟩ := store_boxagg 0 [Vi x22.1.1.1, .slice a0_23 (x22.1.1.2).length c0_23, .slice a2_23 (x22.1.2).length c2_23] #[Vi x22.1.1.1, .slice a0_23 (x22.1.1.2).length c0_23, .slice a2_23 (x22.1.2).length c2_23] tagg29 hb26 rfl rfl rfl
   refine x_store w28 (xv := Vp b26 0) (yv := .agg #[Vi x22.1.1.1, .slice a0_23 (x22.1.1.2).length c0_23, .slice a2_23 (x22.1.2).length c2_23]) rfl rfl rfl rfl hr28 ?_
   refine inl1 ?_
   have hst := Stp.ev' (ls := [[b26], [b19], [b5], [b7], [b0_10], M]) he28 (mem_flat 0 rfl)
   replace hb5 := he28.box hb5 (hms.apart 2 0 rfl rfl rfl _ mem1)
   replace hs_p1_0 := hs_p1_0.step hst
   replace hb7 := he28.box hb7 (hms.apart 3 0 rfl rfl rfl _ mem1)
   replace hs_p2_0_1 := hs_p2_0_1.step hst
   replace hs_p2_1 := hs_p2_1.step hst
   replace hf10_1 := he28.box hf10_1 (hms.apart 4 0 rfl rfl rfl _ mem1)
   replace hf10_2 := hf10_2.step hst
   replace hf17_1 := hf17_1.step hst
   replace hb19 := he28.box hb19 (hms.apart 1 0 rfl rfl rfl _ mem1)
   replace hf23_1 := hf23_1.step hst
   replace hf23_2 := hf23_2.step hst
   replace hms := hms.ev he28
   replace hev := hev.then he28 (fun b hb => .inr (hfr.at 0 rfl b hb))
   replace hb26 := hb28
   refine x_pure 1 [(11, Vi x22.2)] _ _ _ (by kernel_rfl) ?_
   refine x_ek ?_
   refine c_sp ?_
   refine x_load (xv := Vp b19 0) (.agg #[.slice a0_17 (x16.1.1).length c0_17, Vi x16.1.2]) rfl rfl rfl (reads_boxagg 0 [.slice a0_17 (x16.1.1).length c0_17, Vi x16.1.2] tagg25 hb19 nn rfl) ?_
   obtain ⟨x29, hx, h⟩ := bind_some h
   have hpk : MS w28 ([] ++ [[b26], [b19], [b5], [b7], [b0_10], M]) := hms.pick [some 0, some 1, some 2, some 3, some 4, some 5] _ rfl
   have hsb0 : ∀ x ∈ fl ([] ++ [[b26], [b19], [b5], [b7], [b0_10], M]), x ∈ fl [[b26], [b19], [b5], [b7], [b0_10], M] := pick_sub [some 0, some 1, some 2, some 3, some 4, some 5] _ rfl
   have hsb : ∀ x ∈ fl ([] ++ [(fl [[b26], [b19], [b5], [b7], [b0_10], M])]), x ∈ fl [[b26], [b19], [b5], [b7], [b0_10], M] := fun x hx => hsb0 x (fl_unfold x hx)
   have hcall := r15_Make_w a0_17 c0_17 x16.1.1 x16.1.2 _ w28 (fl [[b26], [b19], [b5], [b7], [b0_10], M]) (MS.fold (P := []) hpk) (hf17_1.sub hsb) hx
   refine x_call 11 #[] #[] [.agg #[.slice a0_17 (x16.1.1).length c0_17, Vi x16.1.2]] _ rfl rfl rfl rfl hcall ?_
   rintro v w30 ⟨a0_30, c0_30, a2_30, c2_30, rfl, he30, hmn30, hfn30, hf30_1, hf30_2⟩
   clear hcall hx
   refine inl1 ?_
   have hpk2 : MS w28 ([] ++ [[b26], [b19], [b5], [b7], [b0_10], M]) := hms.pick [some 0, some 1, some 2, some 3, some 4, some 5] _ rfl
   have hsb2 : ∀ x ∈ fl ([] ++ [[b26], [b19], [b5], [b7], [b0_10], M]), x ∈ fl [[b26], [b19], [b5], [b7], [b0_10], M] := pick_sub [some 0, some 1, some 2, some 3, some 4, some 5] _ rfl
   have hst0 := Stp.call (LS := [[b26], [b19], [b5], [b7], [b0_10], M]) (res := [blk a0_30, blk a2_30]) (par := []) (R := [[b26], [b19], [b5], [b7], [b0_10], M]) he30 (fun b hb => hsb2 b (fl_left' (P := []) b hb)) hfn30 (NP.init _ _) (fun x hx => hsb2 x (fl_right' (P := []) x hx))
   have hsn : ∀ x ∈ fl [blk a0_30, blk a2_30, [b26], [b19], [b5], [b7], [b0_10], M], x ∈ fl ([blk a0_30, blk a2_30] ++ ([] ++ [[b26], [b19], [b5], [b7], [b0_10], M])) := pick_sub [some 0, some 1, some 2, some 3, some 4, some 5, some 6, some 7] _ rfl
   have hst := hst0.res hsn
   replace hb5 := he30.box hb5 ((MS.outs (P := []) hpk2 2 rfl) _ mem1)
   replace hs_p1_0 := hs_p1_0.step hst
   replace hb7 := he30.box hb7 ((MS.outs (P := []) hpk2 3 rfl) _ mem1)
   replace hs_p2_0_1 := hs_p2_0_1.step hst
   replace hs_p2_1 := hs_p2_1.step hst
   replace hf10_1 := he30.box hf10_1 ((MS.outs (P := []) hpk2 4 rfl) _ mem1)
   replace hf10_2 := hf10_2.step hst
   replace hf17_1 := hf17_1.step hst
   replace hb19 := he30.box hb19 ((MS.outs (P := []) hpk2 1 rfl) _ mem1)
   replace hf23_1 := hf23_1.step hst
   replace hf23_2 := hf23_2.step hst
   replace hb26 := he30.box hb26 ((MS.outs (P := []) hpk2 0 rfl) _ mem1)
   replace hms : MS w30 [blk a0_30, blk a2_30, [b26], [b19], [b5], [b7], [b0_10], M] := (MS.call (P := []) (R := [[b26], [b19], [b5], [b7], [b0_10], M]) (res := [blk a0_30, blk a2_30]) (par := []) hpk2 he30 hmn30 hfn30 (NP.init _ _)).pick [some 0, some 1, some 2, some 3, some 4, some 5, some 6, some 7] _ rfl
   have hfr2 : FR w.heap.size [blk a0_30, blk a2_30, [b26], [b19], [b5], [b7], [b0_10]] := (FR.cons (fun b hb => Nat.le_trans hev.size (hfn30.at 0 rfl b hb)) (FR.cons (fun b hb => Nat.le_trans hev.size (hfn30.at 1 rfl b hb)) (FR.cons (hfr.at 0 rfl) (FR.cons (hfr.at 1 rfl) (FR.cons (hfr.at 2 rfl) (FR.cons (hfr.at 3 rfl) (FR.cons (hfr.at 4 rfl) (FR.nil _))))))))
   replace hev := hev.ext he30
   replace hfr := hfr2
   clear hfr2
   replace hf30_1 := OwnS.plain (M' := fl [blk a0_30, blk a2_30, [b26], [b19], [b5], [b7], [b0_10], M]) (plain_int _) hf30_1
   replace hf30_2 := OwnS.plain (M' := fl [blk a0_30, blk a2_30, [b26], [b19], [b5], [b7], [b0_10], M]) (plain_int _) hf30_2
   clear hpk hsb hsb0 hpk2 hsb2 hst0 hsn hst
   have hpk : MS w30 [blk a2_30, [b26], [b19], [b5], [b7], [b0_10], M] := hms.pick [some 1, some 2, some 3, some 4, some 5, some 6, some 7] _ rfl
   have hsu : ∀ x ∈ fl [blk a2_30, [b26], [b19], [b5], [b7], [b0_10], M], x ∈ fl [blk a0_30, blk a2_30, [b26], [b19], [b5], [b7], [b0_10], M] := pick_sub [some 1, some 2, some 3, some 4, some 5, some 6, some 7] _ rfl
   replace hs_p1_0 := hs_p1_0.sub hsu
   replace hs_p2_0_1 := hs_p2_0_1.sub hsu
   replace hs_p2_1 := hs_p2_1.sub hsu
   replace hf10_2 := hf10_2.sub hsu
   replace hf17_1 := hf17_1.sub hsu
   replace hf23_1 := hf23_1.sub hsu
   replace hf23_2 := hf23_2.sub hsu
   replace hf30_1 := hf30_1.ro hsu (pick_out hms 0 rfl [some 1, some 2, some 3, some 4, some 5, some 6, some 7] [blk a2_30, [b26], [b19], [b5], [b7], [b0_10], M] rfl rfl)
   replace hf30_2 := hf30_2.sub hsu
   replace hms := hpk
   replace hfr : FR w.heap.size [blk a2_30, [b26], [b19], [b5], [b7], [b0_10]] := hfr.pick [some 1, some 2, some 3, some 4, some 5, some 6] _ rfl
   clear hpk hsu
   have hpk : MS w30 [[b26], [b19], [b5], [b7], [b0_10], M] := hms.pick [some 1, some 2, some 3, some 4, some 5, some 6] _ rfl
   have hsu : ∀ x ∈ fl [[b26], [b19], [b5], [b7], [b0_10], M], x ∈ fl [blk a2_30, [b26], [b19], [b5], [b7], [b0_10], M] := pick_sub [some 1, some 2, some 3, some 4, some 5, some 6] _ rfl
   replace hs_p1_0 := hs_p1_0.sub hsu
   replace hs_p2_0_1 := hs_p2_0_1.sub hsu
   replace hs_p2_1 := hs_p2_1.sub hsu
   replace hf10_2 := hf10_2.sub hsu
   replace hf17_1 := hf17_1.sub hsu
   replace hf23_1 := hf23_1.sub hsu
   replace hf23_2 := hf23_2.sub hsu
   replace hf30_1 := hf30_1.sub hsu
   replace hf30_2 := hf30_2.ro hsu (pick_out hms 0 rfl [some 1, some 2, some 3, some 4, some 5, some 6] [[b26], [b19], [b5], [b7], [b0_10], M] rfl rfl)
   replace hms := hpk
   replace hfr : FR w.heap.size [[b26], [b19], [b5], [b7], [b0_10]] := hfr.pick [some 1, some 2, some 3, some 4, some 5] _ rfl
   clear hpk hsu
   refine x_pure 3 [(28, .tuple #[.agg #[Vi x29.1.1.1, .slice a0_30 (x29.1.1.2).length c0_30, .slice a2_30 (x29.1.2).length c2_30], Vi x29.2]), (31, .agg #[Vi x29.1.1.1, .slice a0_30 (x29.1.1.2).length c0_30, .slice a2_30 (x29.1.2).length c2_30]), (32, Vi x29.2)] _ _ _ (by kernel_rfl) ?_
   refine x_alloc (z := .agg #[Vi 0, .slice none 0 0, .slice none 0 0]) rfl rfl (by kernel_rfl) (fun b33 w33 hq33 hb33 he33 hz33 => ?_)
   replace hb33 : w33.heap[b33]? = some (.cells #[Vi 0, .slice none 0 0, .slice none 0 0] 29 (0, 0)) := hb33
   refine inl1 ?_
   have hst := Stp.box (ls := [[b26], [b19], [b5], [b7], [b0_10], M]) he33 hq33
   replace hb5 := he33.box hb5 nn
   replace hs_p1_0 := hs_p1_0.step hst
   replace hb7 := he33.box hb7 nn
   replace hs_p2_0_1 := hs_p2_0_1.step hst
   replace hs_p2_1 := hs_p2_1.step hst
   replace hf10_1 := he33.box hf10_1 nn
   replace hf10_2 := hf10_2.step hst
   replace hf17_1 := hf17_1.step hst
   replace hb19 := he33.box hb19 nn
   replace hf23_1 := hf23_1.step hst
   replace hf23_2 := hf23_2.step hst
   replace hb26 := he33.box hb26 nn
   replace hf30_1 := hf30_1.step hst
   replace hf30_2 := hf30_2.step hst
   replace hms := hms.box he33 hq33 hb33
   replace hfr := hfr.box hev.size hq33
   replace hev := hev.ext he33
   obtain ⟨w35, hr35, hb35, he35⟩ := store_boxagg 0 [Vi x29.1.1.1, .slice a0_30 (x29.1.1.2).length c0_30, .slice a2_30 (x29.1.2).length c2_30] #[Vi x29.1.1.1, .slice a0_30 (x29.1.1.2).length c0_30, .slice a2_30 (x29.1.2).length c2_30] tagg29 hb33 rfl rfl rfl
   refine x_store w35 (xv := Vp b33 0) (yv := .agg #[Vi x29.1.1.1, .slice a0_30 (x29.1.1.2).length c0_30, .slice a2_30 (x29.1.2).length c2_30]) rfl rfl rfl rfl hr35 ?_
   refine inl1 ?_
   have hst := Stp.ev' (ls := [[b33], [b26], [b19], [b5], [b7], [b0_10], M]) he35 (mem_flat 0 rfl)
   replace hb5 := he35.box hb5 (hms.apart 3 0 rfl rfl rfl _ mem1)
   replace hs_p1_0 := hs_p1_0.step hst
   replace hb7 := he35.box hb7 (hms.apart 4 0 rfl rfl rfl _ mem1)
   replace hs_p2_0_1 := hs_p2_0_1.step hst
   replace hs_p2_1 := hs_p2_1.step hst
   replace hf10_1 := he35.box hf10_1 (hms.apart 5 0 rfl rfl rfl _ mem1)
   replace hf10_2 := hf10_2.step hst
   replace hf17_1 := hf17_1.step hst
   replace hb19 := he35.box hb19 (hms.apart 2 0 rfl rfl rfl _ mem1)
   replace hf23_1 := hf23_1.step hst
   replace hf23_2 := hf23_2.step hst
   replace hb26 := he35.box hb26 (hms.apart 1 0 rfl rfl rfl _ mem1)
   replace hf30_1 := hf30_1.step hst
   replace hf30_2 := hf30_2.step hst
   replace hms := hms.ev he35
   replace hev := hev.then he35 (fun b hb => .inr (hfr.at 0 rfl b hb))
   replace hb33 := hb35
   refine x_pure 1 [(13, Vi x29.2)] _ _ _ (by kernel_rfl) ?_
   refine x_ek ?_
   refine c_norm [(4, Vp b5 0), (5, Vp b7 0), (7, Vp b0_10 0), (8, Vi i_s8_l14), (9, Vp b19 0), (10, Vp b26 0), (11, Vi x22.2), (12, Vp b33 0), (13, Vi x29.2)] ⟨rfl, rfl, rfl, rfl, rfl, rfl, rfl, rfl, rfl, trivial⟩ (fun J => ?_)
   refine c_seq ?_
   refine c_sp ?_
   refine x_load (xv := Vp b26 0) (.agg #[Vi x22.1.1.1, .slice a0_23 (x22.1.1.2).length c0_23, .slice a2_23 (x22.1.2).length c2_23]) rfl rfl rfl (reads_boxagg 0 [Vi x22.1.1.1, .slice a0_23 (x22.1.1.2).length c0_23, .slice a2_23 (x22.1.2).length c2_23] tagg29 hb26 nn rfl) ?_
   refine x_load (xv := Vp b33 0) (.agg #[Vi x29.1.1.1, .slice a0_30 (x29.1.1.2).length c0_30, .slice a2_30 (x29.1.2).length c2_30]) rfl rfl rfl (reads_boxagg 0 [Vi x29.1.1.1, .slice a0_30 (x29.1.1.2).length c0_30, .slice a2_30 (x29.1.2).length c2_30] tagg29 hb33 nn rfl) ?_
   obtain ⟨x37, hx, h⟩ := bind_some h
   have hpk : MS w35 ([] ++ [[b33], [b26], [b19], [b5], [b7], [b0_10], M]) := hms.pick [some 0, some 1, some 2, some 3, some 4, some 5, some 6] _ rfl
   have hsb0 : ∀ x ∈ fl ([] ++ [[b33], [b26], [b19], [b5], [b7], [b0_10], M]), x ∈ fl [[b33], [b26], [b19], [b5], [b7], [b0_10], M] := pick_sub [some 0, some 1, some 2, some 3, some 4, some 5, some 6] _ rfl
   have hsb : ∀ x ∈ fl ([] ++ [(fl [[b33], [b26], [b19], [b5], [b7], [b0_10], M])]), x ∈ fl [[b33], [b26], [b19], [b5], [b7], [b0_10], M] := fun x hx => hsb0 x (fl_unfold x hx)
   have hcall := gen_Proofs_w x22.1.1.1 a0_23 c0_23 x22.1.1.2 a2_23 c2_23 x22.1.2 x29.1.1.1 a0_30 c0_30 x29.1.1.2 a2_30 c2_30 x29.1.2 _ w35 (fl [[b33], [b26], [b19], [b5], [b7], [b0_10], M]) (MS.fold (P := []) hpk) (hf23_1.sub hsb) (hf23_2.sub hsb) (hf30_1.sub hsb) (hf30_2.sub hsb) hx
   refine x_call 12 #[] #[] [.agg #[Vi x22.1.1.1, .slice a0_23 (x22.1.1.2).length c0_23, .slice a2_23 (x22.1.2).length c2_23], .agg #[Vi x29.1.1.1, .slice a0_30 (x29.1.1.2).length c0_30, .slice a2_30 (x29.1.2).length c2_30]] _ rfl rfl rfl rfl hcall ?_
   rintro v w38 ⟨rfl, he38⟩
   clear hcall hx
   refine inl1 ?_
   have hst := Stp.ext (ls := [[b33], [b26], [b19], [b5], [b7], [b0_10], M]) he38
   replace hb5 := he38.box hb5 nn
   replace hs_p1_0 := hs_p1_0.step hst
   replace hb7 := he38.box hb7 nn
   replace hs_p2_0_1 := hs_p2_0_1.step hst
   replace hs_p2_1 := hs_p2_1.step hst
   replace hf10_1 := he38.box hf10_1 nn
   replace hf10_2 := hf10_2.step hst
   replace hf17_1 := hf17_1.step hst
   replace hb19 := he38.box hb19 nn
   replace hf23_1 := hf23_1.step hst
   replace hf23_2 := hf23_2.step hst
   replace hb26 := he38.box hb26 nn
   replace hf30_1 := hf30_1.step hst
   replace hf30_2 := hf30_2.step hst
   replace hb33 := he38.box hb33 nn
   replace hms := hms.ev he38
   replace hev := hev.ext he38
   clear hpk hsb hsb0
   refine x_pure 2 [(36, .bool (!x37)), (37, .bool (!x37))] _ _ _ (by kernel_rfl) ?_
   refine x_split 37 (!x37) rfl (fun hb => ?_) (fun hb => ?_)
   · replace h := ite_t hb h
     refine x_pure 4 [(38, undef), (39, undef), (40, undef), (41, .bool true)] _ _ _ (by kernel_rfl) ?_
     refine x_ek ?_
     refine c_true rfl ?_
     refine c_sp ?_
     refine x_pure 1 [(6, .bool false)] _ _ _ (by kernel_rfl) ?_
     refine x_ek ?_
     refine c_ret ?_
     refine k_then_ret ?_
     refine k_block_ret ?_
     refine k_then_ret ?_
     have hx := some_inj h
     subst hx
     have hy := some_inj hn14
     subst hy
     replace h := h14
     refine k_then_ret ?_
     refine k_block_ret ?_
     refine k_then_ret ?_
     refine r_ret (r_vals [.bool false] ⟨rfl, trivial⟩ ?_)
     have hx := some_inj h
     subst hx
     have hmr : MS w38 [M] := hms.pick [some 6] _ rfl
     have hsu : ∀ x ∈ fl [M], x ∈ fl [[b33], [b26], [b19], [b5], [b7], [b0_10], M] := pick_sub [some 6] _ rfl
     exact ⟨rfl, hev⟩
   replace h := ite_f hb h
   refine x_pure 4 [(38, Vi x22.2), (39, Vi x29.2), (40, .bool (x22.2 != x29.2)), (41, .bool (x22.2 != x29.2))] _ _ _ (by kernel_rfl) ?_
   refine x_ek ?_
   refine c_cond (x22.2 != x29.2) rfl (fun hb => ?_) (fun hb => ?_)
   · replace h := ite_t hb h
     refine c_sp ?_
     refine x_pure 1 [(6, .bool false)] _ _ _ (by kernel_rfl) ?_
     refine x_ek ?_
     refine c_ret ?_
     refine k_then_ret ?_
     refine k_block_ret ?_
     refine k_then_ret ?_
     have hx := some_inj h
     subst hx
     have hy := some_inj hn14
     subst hy
     replace h := h14
     refine k_then_ret ?_
     refine k_block_ret ?_
     refine k_then_ret ?_
     refine r_ret (r_vals [.bool false] ⟨rfl, trivial⟩ ?_)
     have hx := some_inj h
     subst hx
     have hmr : MS w38 [M] := hms.pick [some 6] _ rfl
     have hsu : ∀ x ∈ fl [M], x ∈ fl [[b33], [b26], [b19], [b5], [b7], [b0_10], M] := pick_sub [some 6] _ rfl
     exact ⟨rfl, hev⟩
   replace h := ite_f hb h
   refine c_skip ?_
   refine k_then ?_
   refine c_sp ?_
   refine x_pure 1 [(42, Vp b0_10 0)] _ _ _ (by kernel_rfl) ?_
   refine x_load (xv := Vp b33 0) (.agg #[Vi x29.1.1.1, .slice a0_30 (x29.1.1.2).length c0_30, .slice a2_30 (x29.1.2).length c2_30]) rfl rfl rfl (reads_boxagg 0 [Vi x29.1.1.1, .slice a0_30 (x29.1.1.2).length c0_30, .slice a2_30 (x29.1.2).length c2_30] tagg29 hb33 nn rfl) ?_
   obtain ⟨x39, hx, h⟩ := bind_some h
   have hpk : MS w38 ([[b0_10]] ++ [[b33], [b26], [b19], [b5], [b7], M]) := hms.pick [some 5, some 0, some 1, some 2, some 3, some 4, some 6] _ rfl
   have hsb0 : ∀ x ∈ fl ([[b0_10]] ++ [[b33], [b26], [b19], [b5], [b7], M]), x ∈ fl [[b33], [b26], [b19], [b5], [b7], [b0_10], M] := pick_sub [some 5, some 0, some 1, some 2, some 3, some 4, some 6] _ rfl
   have hsb : ∀ x ∈ fl ([[b0_10]] ++ [(fl [[b33], [b26], [b19], [b5], [b7], M])]), x ∈ fl [[b33], [b26], [b19], [b5], [b7], [b0_10], M] := fun x hx => hsb0 x (fl_unfold x hx)
   have hcall := law15_spoil_w b0_10 a1_10 c1_10 x9.1 x16.2 x29.1.1.1 a0_30 c0_30 x29.1.1.2 a2_30 c2_30 x29.1.2 _ w38 (fl [[b33], [b26], [b19], [b5], [b7], M]) (hpk.fold (P := [[b0_10]])) (hf10_2.sub hsb) hf10_1 (hf30_1.sub hsb) (hf30_2.sub hsb) hx
   refine x_call 13 #[] #[] [Vp b0_10 0, .agg #[Vi x29.1.1.1, .slice a0_30 (x29.1.1.2).length c0_30, .slice a2_30 (x29.1.2).length c2_30]] _ rfl rfl rfl rfl hcall ?_
   rintro v w40 ⟨a0_40, c0_40, a2_40, c2_40, rfl, he40, hp40_0, hmn40, hfn40, hf40_1, hf40_2⟩
   clear hcall hx
   refine inl1 ?_
   have hpk2 : MS w38 ([[b0_10]] ++ [[b33], [b26], [b19], [b5], [b7], M]) := hms.pick [some 5, some 0, some 1, some 2, some 3, some 4, some 6] _ rfl
   have hsb2 : ∀ x ∈ fl ([[b0_10]] ++ [[b33], [b26], [b19], [b5], [b7], M]), x ∈ fl [[b33], [b26], [b19], [b5], [b7], [b0_10], M] := pick_sub [some 5, some 0, some 1, some 2, some 3, some 4, some 6] _ rfl
   have hst0 := Stp.call (LS := [[b33], [b26], [b19], [b5], [b7], [b0_10], M]) (res := [blk a0_40, blk a2_40]) (par := [[b0_10]]) (R := [[b33], [b26], [b19], [b5], [b7], M]) he40 (fun b hb => hsb2 b (fl_left' (P := [[b0_10]]) b hb)) hfn40 (NP.init _ _) (fun x hx => hsb2 x (fl_right' (P := [[b0_10]]) x hx))
   have hsn : ∀ x ∈ fl [blk a0_40, blk a2_40, [b33], [b26], [b19], [b5], [b7], [b0_10], M], x ∈ fl ([blk a0_40, blk a2_40] ++ ([[b0_10]] ++ [[b33], [b26], [b19], [b5], [b7], M])) := pick_sub [some 0, some 1, some 3, some 4, some 5, some 6, some 7, some 2, some 8] _ rfl
   have hst := hst0.res hsn
   replace hb5 := he40.box hb5 ((MS.outs (P := [[b0_10]]) hpk2 3 rfl) _ mem1)
   replace hs_p1_0 := hs_p1_0.step hst
   replace hb7 := he40.box hb7 ((MS.outs (P := [[b0_10]]) hpk2 4 rfl) _ mem1)
   replace hs_p2_0_1 := hs_p2_0_1.step hst
   replace hs_p2_1 := hs_p2_1.step hst
   replace hf10_2 := hf10_2.step hst
   replace hf17_1 := hf17_1.step hst
   replace hb19 := he40.box hb19 ((MS.outs (P := [[b0_10]]) hpk2 2 rfl) _ mem1)
   replace hf23_1 := hf23_1.step hst
   replace hf23_2 := hf23_2.step hst
   replace hb26 := he40.box hb26 ((MS.outs (P := [[b0_10]]) hpk2 1 rfl) _ mem1)
   replace hf30_1 := hf30_1.step hst
   replace hf30_2 := hf30_2.step hst
   replace hb33 := he40.box hb33 ((MS.outs (P := [[b0_10]]) hpk2 0 rfl) _ mem1)
   replace hms : MS w40 [blk a0_40, blk a2_40, [b33], [b26], [b19], [b5], [b7], [b0_10], M] := (MS.call (P := [[b0_10]]) (R := [[b33], [b26], [b19], [b5], [b7], M]) (res := [blk a0_40, blk a2_40]) (par := [[b0_10]]) hpk2 he40 hmn40 hfn40 (NP.init _ _)).pick [some 0, some 1, some 3, some 4, some 5, some 6, some 7, some 2, some 8] _ rfl
   have hPf : ∀ b ∈ fl [[b0_10]], w.heap.size ≤ b := FR.mem (ls := [[b0_10]]) (hfr.pick [some 5] _ rfl)
   have hfr2 : FR w.heap.size [blk a0_40, blk a2_40, [b33], [b26], [b19], [b5], [b7], [b0_10]] := (FR.cons (fun b hb => Nat.le_trans hev.size (hfn40.at 0 rfl b hb)) (FR.cons (fun b hb => Nat.le_trans hev.size (hfn40.at 1 rfl b hb)) (FR.cons (hfr.at 0 rfl) (FR.cons (hfr.at 1 rfl) (FR.cons (hfr.at 2 rfl) (FR.cons (hfr.at 3 rfl) (FR.cons (hfr.at 4 rfl) (FR.cons (hfr.at 5 rfl) (FR.nil _)))))))))
   replace hev := hev.then he40 (fun b hb => .inr (hPf b hb))
   replace hfr := hfr2
   clear hfr2
   replace hf10_1 := hp40_0
   replace hf40_1 := OwnS.plain (M' := fl [blk a0_40, blk a2_40, [b33], [b26], [b19], [b5], [b7], [b0_10], M]) (plain_int _) hf40_1
   replace hf40_2 := OwnS.plain (M' := fl [blk a0_40, blk a2_40, [b33], [b26], [b19], [b5], [b7], [b0_10], M]) (plain_int _) hf40_2
   clear hpk hsb hsb0 hpk2 hsb2 hst0 hsn hst
   have hpk : MS w40 [blk a2_40, [b33], [b26], [b19], [b5], [b7], [b0_10], M] := hms.pick [some 1, some 2, some 3, some 4, some 5, some 6, some 7, some 8] _ rfl
   have hsu : ∀ x ∈ fl [blk a2_40, [b33], [b26], [b19], [b5], [b7], [b0_10], M], x ∈ fl [blk a0_40, blk a2_40, [b33], [b26], [b19], [b5], [b7], [b0_10], M] := pick_sub [some 1, some 2, some 3, some 4, some 5, some 6, some 7, some 8] _ rfl
   replace hs_p1_0 := hs_p1_0.sub hsu
   replace hs_p2_0_1 := hs_p2_0_1.sub hsu
   replace hs_p2_1 := hs_p2_1.sub hsu
   replace hf10_2 := hf10_2.sub hsu
   replace hf17_1 := hf17_1.sub hsu
   replace hf23_1 := hf23_1.sub hsu
   replace hf23_2 := hf23_2.sub hsu
   replace hf30_1 := hf30_1.sub hsu
   replace hf30_2 := hf30_2.sub hsu
   replace hf40_1 := hf40_1.ro hsu (pick_out hms 0 rfl [some 1, some 2, some 3, some 4, some 5, some 6, some 7, some 8] [blk a2_40, [b33], [b26], [b19], [b5], [b7], [b0_10], M] rfl rfl)
   replace hf40_2 := hf40_2.sub hsu
   replace hms := hpk
   replace hfr : FR w.heap.size [blk a2_40, [b33], [b26], [b19], [b5], [b7], [b0_10]] := hfr.pick [some 1, some 2, some 3, some 4, some 5, some 6, some 7] _ rfl
   clear hpk hsu
   have hpk : MS w40 [[b33], [b26], [b19], [b5], [b7], [b0_10], M] := hms.pick [some 1, some 2, some 3, some 4, some 5, some 6, some 7] _ rfl
   have hsu : ∀ x ∈ fl [[b33], [b26], [b19], [b5], [b7], [b0_10], M], x ∈ fl [blk a2_40, [b33], [b26], [b19], [b5], [b7], [b0_10], M] := pick_sub [some 1, some 2, some 3, some 4, some 5, some 6, some 7] _ rfl
   replace hs_p1_0 := hs_p1_0.sub hsu
   replace hs_p2_0_1 := hs_p2_0_1.sub hsu
   replace hs_p2_1 := hs_p2_1.sub hsu
   replace hf10_2 := hf10_2.sub hsu
   replace hf17_1 := hf17_1.sub hsu
   replace hf23_1 := hf23_1.sub hsu
   replace hf23_2 := hf23_2.sub hsu
   replace hf30_1 := hf30_1.sub hsu
   replace hf30_2 := hf30_2.sub hsu
   replace hf40_1 := hf40_1.sub hsu
   replace hf40_2 := hf40_2.ro hsu (pick_out hms 0 rfl [some 1, some 2, some 3, some 4, some 5, some 6, some 7] [[b33], [b26], [b19], [b5], [b7], [b0_10], M] rfl rfl)
   replace hms := hpk
   replace hfr : FR w.heap.size [[b33], [b26], [b19], [b5], [b7], [b0_10]] := hfr.pick [some 1, some 2, some 3, some 4, some 5, some 6] _ rfl
   clear hpk hsu
   refine x_alloc (z := .agg #[Vi 0, .slice none 0 0, .slice none 0 0]) rfl rfl (by kernel_rfl) (fun b43 w43 hq43 hb43 he43 hz43 => ?_)
   replace hb43 : w43.heap[b43]? = some (.cells #[Vi 0, .slice none 0 0, .slice none 0 0] 29 (0, 0)) := hb43
   refine inl1 ?_
   have hst := Stp.box (ls := [[b33], [b26], [b19], [b5], [b7], [b0_10], M]) he43 hq43
   replace hb5 := he43.box hb5 nn
   replace hs_p1_0 := hs_p1_0.step hst
   replace hb7 := he43.box hb7 nn
   replace hs_p2_0_1 := hs_p2_0_1.step hst
   replace hs_p2_1 := hs_p2_1.step hst
   replace hf10_1 := he43.box hf10_1 nn
   replace hf10_2 := hf10_2.step hst
   replace hf17_1 := hf17_1.step hst
   replace hb19 := he43.box hb19 nn
   replace hf23_1 := hf23_1.step hst
   replace hf23_2 := hf23_2.step hst
   replace hb26 := he43.box hb26 nn
   replace hf30_1 := hf30_1.step hst
   replace hf30_2 := hf30_2.step hst
   replace hb33 := he43.box hb33 nn
   replace hf40_1 := hf40_1.step hst
   replace hf40_2 := hf40_2.step hst
   replace hms := hms.box he43 hq43 hb43
   replace hfr := hfr.box hev.size hq43
   replace hev := hev.ext he43
   obtain ⟨w45, hr45, hb45, he45⟩ := store_boxagg 0 [Vi x39.1.1.1, .slice a0_40 (x39.1.1.2).length c0_40, .slice a2_40 (x39.1.2).length c2_40] #[Vi x39.1.1.1, .slice a0_40 (x39.1.1.2).length c0_40, .slice a2_40 (x39.1.2).length c2_40] tagg29 hb43 rfl rfl rfl
   refine x_store w45 (xv := Vp b43 0) (yv := .agg #[Vi x39.1.1.1, .slice a0_40 (x39.1.1.2).length c0_40, .slice a2_40 (x39.1.2).length c2_40]) rfl rfl rfl rfl hr45 ?_
   refine inl1 ?_
   have hst := Stp.ev' (ls := [[b43], [b33], [b26], [b19], [b5], [b7], [b0_10], M]) he45 (mem_flat 0 rfl)
   replace hb5 := he45.box hb5 (hms.apart 4 0 rfl rfl rfl _ mem1)
   replace hs_p1_0 := hs_p1_0.step hst
   replace hb7 := he45.box hb7 (hms.apart 5 0 rfl rfl rfl _ mem1)
   replace hs_p2_0_1 := hs_p2_0_1.step hst
   replace hs_p2_1 := hs_p2_1.step hst
   replace hf10_1 := he45.box hf10_1 (hms.apart 6 0 rfl rfl rfl _ mem1)
   replace hf10_2 := hf10_2.step hst
   replace hf17_1 := hf17_1.step hst
   replace hb19 := he45.box hb19 (hms.apart 3 0 rfl rfl rfl _ mem1)
   replace hf23_1 := hf23_1.step hst
   replace hf23_2 := hf23_2.step hst
   replace hb26 := he45.box hb26 (hms.apart 2 0 rfl rfl rfl _ mem1)
   replace hf30_1 := hf30_1.step hst
   replace hf30_2 := hf30_2.step hst
   replace hb33 := he45.box hb33 (hms.apart 1 0 rfl rfl rfl _ mem1)
   replace hf40_1 := hf40_1.step hst
   replace hf40_2 := hf40_2.step hst
   replace hms := hms.ev he45
   replace hev := hev.then he45 (fun b hb => .inr (hfr.at 0 rfl b hb))
   replace hb43 := hb45
   refine x_ek ?_
   refine c_norm [(4, Vp b5 0), (5, Vp b7 0), (7, Vp b0_10 0), (8, Vi i_s8_l14), (9, Vp b19 0), (12, Vp b33 0), (14, Vp b43 0)] ⟨rfl, rfl, rfl, rfl, rfl, rfl, rfl, trivial⟩ (fun J => ?_)
   refine c_seq ?_
   refine c_seq ?_
   refine c_drawn [] [(0, false), (1, false), (3, false), (4, false), (2, false), (5, true), (6, false), (7, false), (8, false), (9, false), (11, false), (12, false), (10, false), (13, false), (14, false), (15, false)] _ (by kernel_rfl) rfl ?_
   have hst := Stp.ext (ls := [[b43], [b33], [b26], [b19], [b5], [b7], [b0_10], M]) (Ev.drew w45)
   replace hb5 := (Ev.drew w45).box hb5 nn
   replace hs_p1_0 := hs_p1_0.step hst
   replace hb7 := (Ev.drew w45).box hb7 nn
   replace hs_p2_0_1 := hs_p2_0_1.step hst
   replace hs_p2_1 := hs_p2_1.step hst
   replace hf10_1 := (Ev.drew w45).box hf10_1 nn
   replace hf10_2 := hf10_2.step hst
   replace hf17_1 := hf17_1.step hst
   replace hb19 := (Ev.drew w45).box hb19 nn
   replace hf23_1 := hf23_1.step hst
   replace hf23_2 := hf23_2.step hst
   replace hb26 := (Ev.drew w45).box hb26 nn
   replace hf30_1 := hf30_1.step hst
   replace hf30_2 := hf30_2.step hst
   replace hb33 := (Ev.drew w45).box hb33 nn
   replace hf40_1 := hf40_1.step hst
   replace hf40_2 := hf40_2.step hst
   replace hb43 := (Ev.drew w45).box hb43 nn
   replace hms := hms.ev (Ev.drew w45)
   replace hev := hev.ext (Ev.drew w45)
   refine x_load (xv := Vp b19 0) (.agg #[.slice a0_17 (x16.1.1).length c0_17, Vi x16.1.2]) rfl rfl rfl (reads_boxagg 0 [.slice a0_17 (x16.1.1).length c0_17, Vi x16.1.2] tagg25 hb19 nn rfl) ?_
   refine x_load (xv := Vp b33 0) (.agg #[Vi x29.1.1.1, .slice a0_30 (x29.1.1.2).length c0_30, .slice a2_30 (x29.1.2).length c2_30]) rfl rfl rfl (reads_boxagg 0 [Vi x29.1.1.1, .slice a0_30 (x29.1.1.2).length c0_30, .slice a2_30 (x29.1.2).length c2_30] tagg29 hb33 nn rfl) ?_
   refine x_load (xv := Vp b19 0) (.agg #[.slice a0_17 (x16.1.1).length c0_17, Vi x16.1.2]) rfl rfl rfl (reads_boxagg 0 [.slice a0_17 (x16.1.1).length c0_17, Vi x16.1.2] tagg25 hb19 nn rfl) ?_
   refine x_load (xv := Vp b33 0) (.agg #[Vi x29.1.1.1, .slice a0_30 (x29.1.1.2).length c0_30, .slice a2_30 (x29.1.2).length c2_30]) rfl rfl rfl (reads_boxagg 0 [Vi x29.1.1.1, .slice a0_30 (x29.1.1.2).length c0_30, .slice a2_30 (x29.1.2).length c2_30] tagg29 hb33 nn rfl) ?_
   obtain ⟨x47, hx, h⟩ := bind_some h
   have hpk : MS (w45).drew ([] ++ [[b43], [b33], [b26], [b19], [b5], [b7], [b0_10], M]) := hms.pick [some 0, some 1, some 2, some 3, some 4, some 5, some 6, some 7] _ rfl
   have hsb0 : ∀ x ∈ fl ([] ++ [[b43], [b33], [b26], [b19], [b5], [b7], [b0_10], M]), x ∈ fl [[b43], [b33], [b26], [b19], [b5], [b7], [b0_10], M] := pick_sub [some 0, some 1, some 2, some 3, some 4, some 5, some 6, some 7] _ rfl
   have hsb : ∀ x ∈ fl ([] ++ [(fl [[b43], [b33], [b26], [b19], [b5], [b7], [b0_10], M])]), x ∈ fl [[b43], [b33], [b26], [b19], [b5], [b7], [b0_10], M] := fun x hx => hsb0 x (fl_unfold x hx)
   have hcall := certificate_Check_w a0_17 c0_17 x16.1.1 x16.1.2 x29.1.1.1 a0_30 c0_30 x29.1.1.2 a2_30 c2_30 x29.1.2 _ (w45).drew (fl [[b43], [b33], [b26], [b19], [b5], [b7], [b0_10], M]) (MS.fold (P := []) hpk) (hf17_1.sub hsb) (hf30_1.sub hsb) (hf30_2.sub hsb) hx
   refine x_call 14 #[] #[] [.agg #[.slice a0_17 (x16.1.1).length c0_17, Vi x16.1.2], .agg #[Vi x29.1.1.1, .slice a0_30 (x29.1.1.2).length c0_30, .slice a2_30 (x29.1.2).length c2_30]] _ rfl rfl rfl rfl hcall ?_
   rintro v w48 ⟨rfl, he48⟩
   clear hcall hx
   refine ⟨.inr he48, ?_⟩
   have hst := Stp.ext (ls := [[b43], [b33], [b26], [b19], [b5], [b7], [b0_10], M]) he48
   replace hb5 := he48.box hb5 nn
   replace hs_p1_0 := hs_p1_0.step hst
   replace hb7 := he48.box hb7 nn
   replace hs_p2_0_1 := hs_p2_0_1.step hst
   replace hs_p2_1 := hs_p2_1.step hst
   replace hf10_1 := he48.box hf10_1 nn
   replace hf10_2 := hf10_2.step hst
   replace hf17_1 := hf17_1.step hst
   replace hb19 := he48.box hb19 nn
   replace hf23_1 := hf23_1.step hst
   replace hf23_2 := hf23_2.step hst
   replace hb26 := he48.box hb26 nn
   replace hf30_1 := hf30_1.step hst
   replace hf30_2 := hf30_2.step hst
   replace hb33 := he48.box hb33 nn
   replace hf40_1 := hf40_1.step hst
   replace hf40_2 := hf40_2.step hst
   replace hb43 := he48.box hb43 nn
   replace hms := hms.ev he48
   replace hev := hev.ext he48
   clear hpk hsb hsb0
   obtain ⟨x49, hx, h⟩ := bind_some h
   have hpk : MS w48 ([] ++ [[b43], [b33], [b26], [b19], [b5], [b7], [b0_10], M]) := hms.pick [some 0, some 1, some 2, some 3, some 4, some 5, some 6, some 7] _ rfl
   have hsb0 : ∀ x ∈ fl ([] ++ [[b43], [b33], [b26], [b19], [b5], [b7], [b0_10], M]), x ∈ fl [[b43], [b33], [b26], [b19], [b5], [b7], [b0_10], M] := pick_sub [some 0, some 1, some 2, some 3, some 4, some 5, some 6, some 7] _ rfl
   have hsb : ∀ x ∈ fl ([] ++ [(fl [[b43], [b33], [b26], [b19], [b5], [b7], [b0_10], M])]), x ∈ fl [[b43], [b33], [b26], [b19], [b5], [b7], [b0_10], M] := fun x hx => hsb0 x (fl_unfold x hx)
   have hcall := r15_Check_w a0_17 c0_17 x16.1.1 x16.1.2 x29.1.1.1 a0_30 c0_30 x29.1.1.2 a2_30 c2_30 x29.1.2 _ w48 (fl [[b43], [b33], [b26], [b19], [b5], [b7], [b0_10], M]) (MS.fold (P := []) hpk) (hf17_1.sub hsb) (hf30_1.sub hsb) (hf30_2.sub hsb) hx
   refine x_call 15 #[] #[] [.agg #[.slice a0_17 (x16.1.1).length c0_17, Vi x16.1.2], .agg #[Vi x29.1.1.1, .slice a0_30 (x29.1.1.2).length c0_30, .slice a2_30 (x29.1.2).length c2_30]] _ rfl rfl rfl rfl hcall ?_
   rintro v w50 ⟨rfl, he50⟩
   clear hcall hx
   refine inl1 ?_
   have hst := Stp.ext (ls := [[b43], [b33], [b26], [b19], [b5], [b7], [b0_10], M]) he50
   replace hb5 := he50.box hb5 nn
   replace hs_p1_0 := hs_p1_0.step hst
   replace hb7 := he50.box hb7 nn
   replace hs_p2_0_1 := hs_p2_0_1.step hst
   replace hs_p2_1 := hs_p2_1.step hst
   replace hf10_1 := he50.box hf10_1 nn
   replace hf10_2 := hf10_2.step hst
   replace hf17_1 := hf17_1.step hst
   replace hb19 := he50.box hb19 nn
   replace hf23_1 := hf23_1.step hst
   replace hf23_2 := hf23_2.step hst
   replace hb26 := he50.box hb26 nn
   replace hf30_1 := hf30_1.step hst
   replace hf30_2 := hf30_2.step hst
   replace hb33 := he50.box hb33 nn
   replace hf40_1 := hf40_1.step hst
   replace hf40_2 := hf40_2.step hst
   replace hb43 := he50.box hb43 nn
   replace hms := hms.ev he50
   replace hev := hev.ext he50
   clear hpk hsb hsb0
   refine x_pure 2 [(51, .bool (x47 != x49)), (52, .bool (x47 != x49))] _ _ _ (by kernel_rfl) ?_
   refine x_split 52 (x47 != x49) rfl (fun hb => ?_) (fun hb => ?_)
   · replace h := ite_t hb h
     refine x_pure 8 [(53, undef), (54, undef), (56, undef), (57, undef), (55, undef), (58, undef), (59, undef), (60, .bool true)] _ _ _ (by kernel_rfl) ?_
     refine x_ek ?_
     refine c_norm [(4, Vp b5 0), (5, Vp b7 0), (7, Vp b0_10 0), (8, Vi i_s8_l14), (9, Vp b19 0), (14, Vp b43 0), (60, .bool true)] ⟨rfl, rfl, rfl, rfl, rfl, rfl, rfl, trivial⟩ (fun J => ?_)
     refine c_true rfl ?_
     refine c_sp ?_
     refine x_pure 1 [(6, .bool false)] _ _ _ (by kernel_rfl) ?_
     refine x_ek ?_
     refine c_ret ?_
     refine k_then_ret ?_
     refine k_block_ret ?_
     refine k_then_ret ?_
     have hx := some_inj h
     subst hx
     have hy := some_inj hn14
     subst hy
     replace h := h14
     refine k_then_ret ?_
     refine k_block_ret ?_
     refine k_then_ret ?_
     refine r_ret (r_vals [.bool false] ⟨rfl, trivial⟩ ?_)
     have hx := some_inj h
     subst hx
     have hmr : MS w50 [M] := hms.pick [some 7] _ rfl
     have hsu : ∀ x ∈ fl [M], x ∈ fl [[b43], [b33], [b26], [b19], [b5], [b7], [b0_10], M] := pick_sub [some 7] _ rfl
     exact ⟨rfl, hev⟩
   replace h := ite_f hb h
   refine x_load (xv := Vp b19 0) (.agg #[.slice a0_17 (x16.1.1).length c0_17, Vi x16.1.2]) rfl rfl rfl (reads_boxagg 0 [.slice a0_17 (x16.1.1).length c0_17, Vi x16.1.2] tagg25 hb19 nn rfl) ?_
   refine x_load (xv := Vp b43 0) (.agg #[Vi x39.1.1.1, .slice a0_40 (x39.1.1.2).length c0_40, .slice a2_40 (x39.1.2).length c2_40]) rfl rfl rfl (reads_boxagg 0 [Vi x39.1.1.1, .slice a0_40 (x39.1.1.2).length c0_40, .slice a2_40 (x39.1.2).length c2_40] tagg29 hb43 nn rfl) ?_
   refine x_load (xv := Vp b19 0) (.agg #[.slice a0_17 (x16.1.1).length c0_17, Vi x16.1.2]) rfl rfl rfl (reads_boxagg 0 [.slice a0_17 (x16.1.1).length c0_17, Vi x16.1.2] tagg25 hb19 nn rfl) ?_
   refine x_load (xv := Vp b43 0) (.agg #[Vi x39.1.1.1, .slice a0_40 (x39.1.1.2).length c0_40, .slice a2_40 (x39.1.2).length c2_40]) rfl rfl rfl (reads_boxagg 0 [Vi x39.1.1.1, .slice a0_40 (x39.1.1.2).length c0_40, .slice a2_40 (x39.1.2).length c2_40] tagg29 hb43 nn rfl) ?_
   obtain ⟨x51, hx, h⟩ := bind_some h
   have hpk : MS w50 ([] ++ [[b43], [b33], [b26], [b19], [b5], [b7], [b0_10], M]) := hms.pick [some 0, some 1, some 2, some 3, some 4, some 5, some 6, some 7] _ rfl
   have hsb0 : ∀ x ∈ fl ([] ++ [[b43], [b33], [b26], [b19], [b5], [b7], [b0_10], M]), x ∈ fl [[b43], [b33], [b26], [b19], [b5], [b7], [b0_10], M] := pick_sub [some 0, some 1, some 2, some 3, some 4, some 5, some 6, some 7] _ rfl
   have hsb : ∀ x ∈ fl ([] ++ [(fl [[b43], [b33], [b26], [b19], [b5], [b7], [b0_10], M])]), x ∈ fl [[b43], [b33], [b26], [b19], [b5], [b7], [b0_10], M] := fun x hx => hsb0 x (fl_unfold x hx)
   have hcall := certificate_Check_w a0_17 c0_17 x16.1.1 x16.1.2 x39.1.1.1 a0_40 c0_40 x39.1.1.2 a2_40 c2_40 x39.1.2 _ w50 (fl [[b43], [b33], [b26], [b19], [b5], [b7], [b0_10], M]) (MS.fold (P := []) hpk) (hf17_1.sub hsb) (hf40_1.sub hsb) (hf40_2.sub hsb) hx
   refine x_call 14 #[] #[] [.agg #[.slice a0_17 (x16.1.1).length c0_17, Vi x16.1.2], .agg #[Vi x39.1.1.1, .slice a0_40 (x39.1.1.2).length c0_40, .slice a2_40 (x39.1.2).length c2_40]] _ rfl rfl rfl rfl hcall ?_
   rintro v w52 ⟨rfl, he52⟩
   clear hcall hx
   refine ⟨.inr he52, ?_⟩
   have hst := Stp.ext (ls := [[b43], [b33], [b26], [b19], [b5], [b7], [b0_10], M]) he52
   replace hb5 := he52.box hb5 nn
   replace hs_p1_0 := hs_p1_0.step hst
   replace hb7 := he52.box hb7 nn
   replace hs_p2_0_1 := hs_p2_0_1.step hst
   replace hs_p2_1 := hs_p2_1.step hst
   replace hf10_1 := he52.box hf10_1 nn
   replace hf10_2 := hf10_2.step hst
   replace hf17_1 := hf17_1.step hst
   replace hb19 := he52.box hb19 nn
   replace hf23_1 := hf23_1.step hst
   replace hf23_2 := hf23_2.step hst
   replace hb26 := he52.box hb26 nn
   replace hf30_1 := hf30_1.step hst
   replace hf30_2 := hf30_2.step hst
   replace hb33 := he52.box hb33 nn
   replace hf40_1 := hf40_1.step hst
   replace hf40_2 := hf40_2.step hst
   replace hb43 := he52.box hb43 nn
   replace hms := hms.ev he52
   replace hev := hev.ext he52
   clear hpk hsb hsb0
   obtain ⟨x53, hx, h⟩ := bind_some h
   have hpk : MS w52 ([] ++ [[b43], [b33], [b26], [b19], [b5], [b7], [b0_10], M]) := hms.pick [some 0, some 1, some 2, some 3, some 4, some 5, some 6, some 7] _ rfl
   have hsb0 : ∀ x ∈ fl ([] ++ [[b43], [b33], [b26], [b19], [b5], [b7], [b0_10], M]), x ∈ fl [[b43], [b33], [b26], [b19], [b5], [b7], [b0_10], M] := pick_sub [some 0, some 1, some 2, some 3, some 4, some 5, some 6, some 7] _ rfl
   have hsb : ∀ x ∈ fl ([] ++ [(fl [[b43], [b33], [b26], [b19], [b5], [b7], [b0_10], M])]), x ∈ fl [[b43], [b33], [b26], [b19], [b5], [b7], [b0_10], M] := fun x hx => hsb0 x (fl_unfold x hx)
   have hcall := r15_Check_w a0_17 c0_17 x16.1.1 x16.1.2 x39.1.1.1 a0_40 c0_40 x39.1.1.2 a2_40 c2_40 x39.1.2 _ w52 (fl [[b43], [b33], [b26], [b19], [b5], [b7], [b0_10], M]) (MS.fold (P := []) hpk) (hf17_1.sub hsb) (hf40_1.sub hsb) (hf40_2.sub hsb) hx
   refine x_call 15 #[] #[] [.agg #[.slice a0_17 (x16.1.1).length c0_17, Vi x16.1.2], .agg #[Vi x39.1.1.1, .slice a0_40 (x39.1.1.2).length c0_40, .slice a2_40 (x39.1.2).length c2_40]] _ rfl rfl rfl rfl hcall ?_
   rintro v w54 ⟨rfl, he54⟩
   clear hcall hx
   refine ⟨.inr he54, ?_⟩
   have hst := Stp.ext (ls := [[b43], [b33], [b26], [b19], [b5], [b7], [b0_10], M]) he54
   replace hb5 := he54.box hb5 nn
   replace hs_p1_0 := hs_p1_0.step hst
   replace hb7 := he54.box hb7 nn
   replace hs_p2_0_1 := hs_p2_0_1.step hst
   replace hs_p2_1 := hs_p2_1.step hst
   replace hf10_1 := he54.box hf10_1 nn
   replace hf10_2 := hf10_2.step hst
   replace hf17_1 := hf17_1.step hst
   replace hb19 := he54.box hb19 nn
   replace hf23_1 := hf23_1.step hst
   replace hf23_2 := hf23_2.step hst
   replace hb26 := he54.box hb26 nn
   replace hf30_1 := hf30_1.step hst
   replace hf30_2 := hf30_2.step hst
   replace hb33 := he54.box hb33 nn
   replace hf40_1 := hf40_1.step hst
   replace hf40_2 := hf40_2.step hst
   replace hb43 := he54.box hb43 nn
   replace hms := hms.ev he54
   replace hev := hev.ext he54
   clear hpk hsb hsb0
   refine x_pure 2 [(59, .bool (x51 != x53)), (60, .bool (x51 != x53))] _ _ _ (by kernel_rfl) ?_
   refine x_ek ?_
   refine c_norm [(4, Vp b5 0), (5, Vp b7 0), (7, Vp b0_10 0), (8, Vi i_s8_l14), (9, Vp b19 0), (14, Vp b43 0), (60, .bool (x51 != x53))] ⟨rfl, rfl, rfl, rfl, rfl, rfl, rfl, trivial⟩ (fun J => ?_)
   refine c_cond (x51 != x53) rfl (fun hb => ?_) (fun hb => ?_)
   · replace h := ite_t hb h
     refine c_sp ?_
     refine x_pure 1 [(6, .bool false)] _ _ _ (by kernel_rfl) ?_
     refine x_ek ?_
     refine c_ret ?_
     refine k_then_ret ?_
     refine k_block_ret ?_
     refine k_then_ret ?_
     have hx := some_inj h
     subst hx
     have hy := some_inj hn14
     subst hy
     replace h := h14
     refine k_then_ret ?_
     refine k_block_ret ?_
     refine k_then_ret ?_
     refine r_ret (r_vals [.bool false] ⟨rfl, trivial⟩ ?_)
     have hx := some_inj h
     subst hx
     have hmr : MS w54 [M] := hms.pick [some 7] _ rfl
     have hsu : ∀ x ∈ fl [M], x ∈ fl [[b43], [b33], [b26], [b19], [b5], [b7], [b0_10], M] := pick_sub [some 7] _ rfl
     exact ⟨rfl, hev⟩
   replace h := ite_f hb h
   refine c_skip ?_
   refine k_then ?_
   refine c_sp ?_
   refine x_pure 1 [(61, Vp b0_10 0)] _ _ _ (by kernel_rfl) ?_
   refine x_load (xv := Vp b43 0) (.agg #[Vi x39.1.1.1, .slice a0_40 (x39.1.1.2).length c0_40, .slice a2_40 (x39.1.2).length c2_40]) rfl rfl rfl (reads_boxagg 0 [Vi x39.1.1.1, .slice a0_40 (x39.1.1.2).length c0_40, .slice a2_40 (x39.1.2).length c2_40] tagg29 hb43 nn rfl) ?_
   obtain ⟨x55, hx, h⟩ := bind_some h
   have hpk : MS w54 ([[b0_10]] ++ [[b43], [b33], [b26], [b19], [b5], [b7], M]) := hms.pick [some 6, some 0, some 1, some 2, some 3, some 4, some 5, some 7] _ rfl
   have hsb0 : ∀ x ∈ fl ([[b0_10]] ++ [[b43], [b33], [b26], [b19], [b5], [b7], M]), x ∈ fl [[b43], [b33], [b26], [b19], [b5], [b7], [b0_10], M] := pick_sub [some 6, some 0, some 1, some 2, some 3, some 4, some 5, some 7] _ rfl
   have hsb : ∀ x ∈ fl ([[b0_10]] ++ [(fl [[b43], [b33], [b26], [b19], [b5], [b7], M])]), x ∈ fl [[b43], [b33], [b26], [b19], [b5], [b7], [b0_10], M] := fun x hx => hsb0 x (fl_unfold x hx)
   have hcall := law15_spoil_w b0_10 a1_10 c1_10 x9.1 x39.2 x39.1.1.1 a0_40 c0_40 x39.1.1.2 a2_40 c2_40 x39.1.2 _ w54 (fl [[b43], [b33], [b26], [b19], [b5], [b7], M]) (hpk.fold (P := [[b0_10]])) (hf10_2.sub hsb) hf10_1 (hf40_1.sub hsb) (hf40_2.sub hsb) hx
   refine x_call 13 #[] #[] [Vp b0_10 0, .agg #[Vi x39.1.1.1, .slice a0_40 (x39.1.1.2).length c0_40, .slice a2_40 (x39.1.2).length c2_40]] _ rfl rfl rfl rfl hcall ?_
   rintro v w56 ⟨a0_56, c0_56, a2_56, c2_56, rfl, he56, hp56_0, hmn56, hfn56, hf56_1, hf56_2⟩
   clear hcall hx
   refine inl1 ?_
   have hpk2 : MS w54 ([[b0_10]] ++ [[b43], [b33], [b26], [b19], [b5], [b7], M]) := hms.pick [some 6, some 0, some 1, some 2, some 3, some 4, some 5, some 7] _ rfl
   have hsb2 : ∀ x ∈ fl ([[b0_10]] ++ [[b43], [b33], [b26], [b19], [b5], [b7], M]), x ∈ fl [[b43], [b33], [b26], [b19], [b5], [b7], [b0_10], M] := pick_sub [some 6, some 0, some 1, some 2, some 3, some 4, some 5, some 7] _ rfl
   have hst0 := Stp.call (LS := [[b43], [b33], [b26], [b19], [b5], [b7], [b0_10], M]) (res := [blk a0_56, blk a2_56]) (par := [[b0_10]]) (R := [[b43], [b33], [b26], [b19], [b5], [b7], M]) he56 (fun b hb => hsb2 b (fl_left' (P := [[b0_10]]) b hb)) hfn56 (NP.init _ _) (fun x hx => hsb2 x (fl_right' (P := [[b0_10]]) x hx))
   have hsn : ∀ x ∈ fl [blk a0_56, blk a2_56, [b43], [b33], [b26], [b19], [b5], [b7], [b0_10], M], x ∈ fl ([blk a0_56, blk a2_56] ++ ([[b0_10]] ++ [[b43], [b33], [b26], [b19], [b5], [b7], M])) := pick_sub [some 0, some 1, some 3, some 4, some 5, some 6, some 7, some 8, some 2, some 9] _ rfl
   have hst := hst0.res hsn
   replace hb5 := he56.box hb5 ((MS.outs (P := [[b0_10]]) hpk2 4 rfl) _ mem1)
   replace hs_p1_0 := hs_p1_0.step hst
   replace hb7 := he56.box hb7 ((MS.outs (P := [[b0_10]]) hpk2 5 rfl) _ mem1)
   replace hs_p2_0_1 := hs_p2_0_1.step hst
   replace hs_p2_1 := hs_p2_1.step hst
   replace hf10_2 := hf10_2.step hst
   replace hf17_1 := hf17_1.step hst
   replace hb19 := he56.box hb19 ((MS.outs (P := [[b0_10]]) hpk2 3 rfl) _ mem1)
   replace hf23_1 := hf23_1.step hst
   replace hf23_2 := hf23_2.step hst
   replace hb26 := he56.box hb26 ((MS.outs (P := [[b0_10]]) hpk2 2 rfl) _ mem1)
   replace hf30_1 := hf30_1.step hst
   replace hf30_2 := hf30_2.step hst
   replace hb33 := he56.box hb33 ((MS.outs (P := [[b0_10]]) hpk2 1 rfl) _ mem1)
   replace hf40_1 := hf40_1.step hst
   replace hf40_2 := hf40_2.step hst
   replace hb43 := he56.box hb43 ((MS.outs (P := [[b0_10]]) hpk2 0 rfl) _ mem1)
   replace hms : MS w56 [blk a0_56, blk a2_56, [b43], [b33], [b26], [b19], [b5], [b7], [b0_10], M] := (MS.call (P := [[b0_10]]) (R := [[b43], [b33], [b26], [b19], [b5], [b7], M]) (res := [blk a0_56, blk a2_56]) (par := [[b0_10]]) hpk2 he56 hmn56 hfn56 (NP.init _ _)).pick [some 0, some 1, some 3, some 4, some 5, some 6, some 7, some 8, some 2, some 9] _ rfl
   have hPf : ∀ b ∈ fl [[b0_10]], w.heap.size ≤ b := FR.mem (ls := [[b0_10]]) (hfr.pick [some 6] _ rfl)
   have hfr2 : FR w.heap.size [blk a0_56, blk a2_56, [b43], [b33], [b26], [b19], [b5], [b7], [b0_10]] := (FR.cons (fun b hb => Nat.le_trans hev.size (hfn56.at 0 rfl b hb)) (FR.cons (fun b hb => Nat.le_trans hev.size (hfn56.at 1 rfl b hb)) (FR.cons (hfr.at 0 rfl) (FR.cons (hfr.at 1 rfl) (FR.cons (hfr.at 2 rfl) (FR.cons (hfr.at 3 rfl) (FR.cons (hfr.at 4 rfl) (FR.cons (hfr.at 5 rfl) (FR.cons (hfr.at 6 rfl) (FR.nil _))))))))))
   replace hev := hev.then he56 (fun b hb => .inr (hPf b hb))
   replace hfr := hfr2
   clear hfr2
   replace hf10_1 := hp56_0
   replace hf56_1 := OwnS.plain (M' := fl [blk a0_56, blk a2_56, [b43], [b33], [b26], [b19], [b5], [b7], [b0_10], M]) (plain_int _) hf56_1
   replace hf56_2 := OwnS.plain (M' := fl [blk a0_56, blk a2_56, [b43], [b33], [b26], [b19], [b5], [b7], [b0_10], M]) (plain_int _) hf56_2
   clear hpk hsb hsb0 hpk2 hsb2 hst0 hsn hst
   have hpk : MS w56 [blk a2_56, [b43], [b33], [b26], [b19], [b5], [b7], [b0_10], M] := hms.pick [some 1, some 2, some 3, some 4, some 5, some 6, some 7, some 8, some 9] _ rfl
   have hsu : ∀ x ∈ fl [blk a2_56, [b43], [b33], [b26], [b19], [b5], [b7], [b0_10], M], x ∈ fl [blk a0_56, blk a2_56, [b43], [b33], [b26], [b19], [b5], [b7], [b0_10], M] := pick_sub [some 1, some 2, some 3, some 4, some 5, some 6, some 7, some 8, some 9] _ rfl
   replace hs_p1_0 := hs_p1_0.sub hsu
   replace hs_p2_0_1 := hs_p2_0_1.sub hsu
   replace hs_p2_1 := hs_p2_1.sub hsu
   replace hf10_2 := hf10_2.sub hsu
   replace hf17_1 := hf17_1.sub hsu
   replace hf23_1 := hf23_1.sub hsu
   replace hf23_2 := hf23_2.sub hsu
   replace hf30_1 := hf30_1.sub hsu
   replace hf30_2 := hf30_2.sub hsu
   replace hf40_1 := hf40_1.sub hsu
   replace hf40_2 := hf40_2.sub hsu
   replace hf56_1 := hf56_1.ro hsu (pick_out hms 0 rfl [some 1, some 2, some 3, some 4, some 5, some 6, some 7, some 8, some 9] [blk a2_56, [b43], [b33], [b26], [b19], [b5], [b7], [b0_10], M] rfl rfl)
   replace hf56_2 := hf56_2.sub hsu
   replace hms := hpk
   replace hfr : FR w.heap.size [blk a2_56, [b43], [b33], [b26], [b19], [b5], [b7], [b0_10]] := hfr.pick [some 1, some 2, some 3, some 4, some 5, some 6, some 7, some 8] _ rfl
   clear hpk hsu
   have hpk : MS w56 [[b43], [b33], [b26], [b19], [b5], [b7], [b0_10], M] := hms.pick [some 1, some 2, some 3, some 4, some 5, some 6, some 7, some 8] _ rfl
   have hsu : ∀ x ∈ fl [[b43], [b33], [b26], [b19], [b5], [b7], [b0_10], M], x ∈ fl [blk a2_56, [b43], [b33], [b26], [b19], [b5], [b7], [b0_10], M] := pick_sub [some 1, some 2, some 3, some 4, some 5, some 6, some 7, some 8] _ rfl
   replace hs_p1_0 := hs_p1_0.sub hsu
   replace hs_p2_0_1 := hs_p2_0_1.sub hsu
   replace hs_p2_1 := hs_p2_1.sub hsu
   replace hf10_2 := hf10_2.sub hsu
   replace hf17_1 := hf17_1.sub hsu
   replace hf23_1 := hf23_1.sub hsu
   replace hf23_2 := hf23_2.sub hsu
   replace hf30_1 := hf30_1.sub hsu
   replace hf30_2 := hf30_2.sub hsu
   replace hf40_1 := hf40_1.sub hsu
   replace hf40_2 := hf40_2.sub hsu
   replace hf56_1 := hf56_1.sub hsu
   replace hf56_2 := hf56_2.ro hsu (pick_out hms 0 rfl [some 1, some 2, some 3, some 4, some 5, some 6, some 7, some 8] [[b43], [b33], [b26], [b19], [b5], [b7], [b0_10], M] rfl rfl)
   replace hms := hpk
   replace hfr : FR w.heap.size [[b43], [b33], [b26], [b19], [b5], [b7], [b0_10]] := hfr.pick [some 1, some 2, some 3, some 4, some 5, some 6, some 7] _ rfl
   clear hpk hsu
   obtain ⟨w59, hr59, hb59, he59⟩ := store_boxagg 0 [Vi x55.1.1.1, .slice a0_56 (x55.1.1.2).length c0_56, .slice a2_56 (x55.1.2).length c2_56] #[Vi x55.1.1.1, .slice a0_56 (x55.1.1.2).length c0_56, .slice a2_56 (x55.1.2).length c2_56] tagg29 hb43 rfl rfl rfl
   refine x_store w59 (xv := Vp b43 0) (yv := .agg #[Vi x55.1.1.1, .slice a0_56 (x55.1.1.2).length c0_56, .slice a2_56 (x55.1.2).length c2_56]) rfl rfl rfl rfl hr59 ?_
   refine inl1 ?_
   have hst := Stp.ev' (ls := [[b43], [b33], [b26], [b19], [b5], [b7], [b0_10], M]) he59 (mem_flat 0 rfl)
   replace hb5 := he59.box hb5 (hms.apart 4 0 rfl rfl rfl _ mem1)
   replace hs_p1_0 := hs_p1_0.step hst
   replace hb7 := he59.box hb7 (hms.apart 5 0 rfl rfl rfl _ mem1)
   replace hs_p2_0_1 := hs_p2_0_1.step hst
   replace hs_p2_1 := hs_p2_1.step hst
   replace hf10_1 := he59.box hf10_1 (hms.apart 6 0 rfl rfl rfl _ mem1)
   replace hf10_2 := hf10_2.step hst
   replace hf17_1 := hf17_1.step hst
   replace hb19 := he59.box hb19 (hms.apart 3 0 rfl rfl rfl _ mem1)
   replace hf23_1 := hf23_1.step hst
   replace hf23_2 := hf23_2.step hst
   replace hb26 := he59.box hb26 (hms.apart 2 0 rfl rfl rfl _ mem1)
   replace hf30_1 := hf30_1.step hst
   replace hf30_2 := hf30_2.step hst
   replace hb33 := he59.box hb33 (hms.apart 1 0 rfl rfl rfl _ mem1)
   replace hf40_1 := hf40_1.step hst
   replace hf40_2 := hf40_2.step hst
   replace hf56_1 := hf56_1.step hst
   replace hf56_2 := hf56_2.step hst
   replace hms := hms.ev he59
   replace hev := hev.then he59 (fun b hb => .inr (hfr.at 0 rfl b hb))
   replace hb43 := hb59
   refine x_ek ?_
   refine c_join (σ := Int × (List (Int × Int × Int × Int)) × Int × Option Addr × Nat) (fun s => match s with | (e11_j60_1, d63_j60, e20_j60_1, a63_j60, c63_j60) => [(4, Vp b5 0), (5, Vp b7 0), (7, Vp b0_10 0), (8, Vi i_s8_l14), (9, Vp b19 0), (14, Vp b43 0)]) (fun s w' => match s with | (e11_j60_1, d63_j60, e20_j60_1, a63_j60, c63_j60) => law15_CertificateExact_J60 i_s8_l14 x55 e11_j60_1 d63_j60 e20_j60_1 = some t14 ∧ Ev [] w w' ∧ MS w' [[b5], [b7], [b0_10], [b19], [b43], M] ∧ FR w.heap.size [[b5], [b7], [b0_10], [b19], [b43]] ∧ SlR (eIt4) w' (fl [[b5], [b7], [b0_10], [b19], [b43], M]) a_p1_0 c_p1_0 p1_0 ∧ w'.heap[b5]? = some (.cells #[.slice a_p1_0 (p1_0).length c_p1_0, Vi p1_1] 25 (0, 0)) ∧ SlR (eInt .i64) w' (fl [[b5], [b7], [b0_10], [b19], [b43], M]) a_p2_0_1 c_p2_0_1 p2_0_1 ∧ SlR (eInt .i64) w' (fl [[b5], [b7], [b0_10], [b19], [b43], M]) a_p2_1 c_p2_1 p2_1 ∧ w'.heap[b7]? = some (.cells #[Vi p2_0_0, .slice a_p2_0_1 (p2_0_1).length c_p2_0_1, .slice a_p2_1 (p2_1).length c_p2_1] 29 (0, 0)) ∧ SlR (eInt .i64) w' (fl [[b5], [b7], [b0_10], [b19], [b43], M]) a1_10 c1_10 x9.1 ∧ w'.heap[b0_10]? = some (.cells #[.slice a1_10 (x9.1).length c1_10, Vi e11_j60_1] 65 (0, 0)) ∧ SlR (eIt4) w' (fl [[b5], [b7], [b0_10], [b19], [b43], M]) a63_j60 c63_j60 d63_j60 ∧ w'.heap[b19]? = some (.cells #[.slice a63_j60 (d63_j60).length c63_j60, Vi e20_j60_1] 25 (0, 0)) ∧ SlR (eInt .i64) w' (fl [[b5], [b7], [b0_10], [b19], [b43], M]) a0_56 c0_56 x55.1.1.2 ∧ SlR (eInt .i64) w' (fl [[b5], [b7], [b0_10], [b19], [b43], M]) a2_56 c2_56 x55.1.2 ∧ w'.heap[b43]? = some (.cells #[Vi x55.1.1.1, .slice a0_56 (x55.1.1.2).length c0_56, .slice a2_56 (x55.1.2).length c2_56] 29 (0, 0))) ?_ ?_
   · refine c_sp ?_
     refine x_pure 2 [(64, Vi i_s8_l14), (65, .bool (i_s8_l14 == 3))] _ _ _ (by kernel_rfl) ?_
     refine x_ek ?_
     refine c_cond (i_s8_l14 == 3) rfl (fun hb => ?_) (fun hb => ?_)
     · replace h := ite_t hb h
       refine c_plain ?_
       refine x_pure 1 [(66, Vp b0_10 0)] _ _ _ (by kernel_rfl) ?_
       refine x_load (xv := Vp b19 0) (.agg #[.slice a0_17 (x16.1.1).length c0_17, Vi x16.1.2]) rfl rfl rfl (reads_boxagg 0 [.slice a0_17 (x16.1.1).length c0_17, Vi x16.1.2] tagg25 hb19 nn rfl) ?_
       obtain ⟨x61, hx, h⟩ := bind_some h
       have hpk : MS w59 ([[b0_10]] ++ [[b43], [b33], [b26], [b19], [b5], [b7], M]) := hms.pick [some 6, some 0, some 1, some 2, some 3, some 4, some 5, some 7] _ rfl
       have hsb0 : ∀ x ∈ fl ([[b0_10]] ++ [[b43], [b33], [b26], [b19], [b5], [b7], M]), x ∈ fl [[b43], [b33], [b26], [b19], [b5], [b7], [b0_10], M] := pick_sub [some 6, some 0, some 1, some 2, some 3, some 4, some 5, some 7] _ rfl
       have hsb : ∀ x ∈ fl ([[b0_10]] ++ [(fl [[b43], [b33], [b26], [b19], [b5], [b7], M])]), x ∈ fl [[b43], [b33], [b26], [b19], [b5], [b7], [b0_10], M] := fun x hx => hsb0 x (fl_unfold x hx)
       have hcall := gen_Maker_SpoilJob_w b0_10 a1_10 c1_10 x9.1 x55.2 a0_17 c0_17 x16.1.1 x16.1.2 _ w59 (fl [[b43], [b33], [b26], [b19], [b5], [b7], M]) (hpk.fold (P := [[b0_10]])) (hf10_2.sub hsb) hf10_1 (hf17_1.sub hsb) hx
       refine x_call 16 #[] #[] [Vp b0_10 0, .agg #[.slice a0_17 (x16.1.1).length c0_17, Vi x16.1.2]] _ rfl rfl rfl rfl hcall ?_
       rintro v w62 ⟨a0_62, c0_62, rfl, he62, hp62_0, hmn62, hfn62, hf62_1⟩
       clear hcall hx
       refine inl1 ?_
       have hpk2 : MS w59 ([[b0_10]] ++ [[b43], [b33], [b26], [b19], [b5], [b7], M]) := hms.pick [some 6, some 0, some 1, some 2, some 3, some 4, some 5, some 7] _ rfl
       have hsb2 : ∀ x ∈ fl ([[b0_10]] ++ [[b43], [b33], [b26], [b19], [b5], [b7], M]), x ∈ fl [[b43], [b33], [b26], [b19], [b5], [b7], [b0_10], M] := pick_sub [some 6, some 0, some 1, some 2, some 3, some 4, some 5, some 7] _ rfl
       have hst0 := Stp.call (LS := [[b43], [b33], [b26], [b19], [b5], [b7], [b0_10], M]) (res := [blk a0_62]) (par := [[b0_10]]) (R := [[b43], [b33], [b26], [b19], [b5], [b7], M]) he62 (fun b hb => hsb2 b (fl_left' (P := [[b0_10]]) b hb)) hfn62 (NP.init _ _) (fun x hx => hsb2 x (fl_right' (P := [[b0_10]]) x hx))
       have hsn : ∀ x ∈ fl [blk a0_62, [b43], [b33], [b26], [b19], [b5], [b7], [b0_10], M], x ∈ fl ([blk a0_62] ++ ([[b0_10]] ++ [[b43], [b33], [b26], [b19], [b5], [b7], M])) := pick_sub [some 0, some 2, some 3, some 4, some 5, some 6, some 7, some 1, some 8] _ rfl
       have hst := hst0.res hsn
       replace hb5 := he62.box hb5 ((MS.outs (P := [[b0_10]]) hpk2 4 rfl) _ mem1)
       replace hs_p1_0 := hs_p1_0.step hst
       replace hb7 := he62.box hb7 ((MS.outs (P := [[b0_10]]) hpk2 5 rfl) _ mem1)
       replace hs_p2_0_1 := hs_p2_0_1.step hst
       replace hs_p2_1 := hs_p2_1.step hst
       replace hf10_2 := hf10_2.step hst
       replace hf17_1 := hf17_1.step hst
       replace hb19 := he62.box hb19 ((MS.outs (P := [[b0_10]]) hpk2 3 rfl) _ mem1)
       replace hf23_1 := hf23_1.step hst
       replace hf23_2 := hf23_2.step hst
       replace hb26 := he62.box hb26 ((MS.outs (P := [[b0_10]]) hpk2 2 rfl) _ mem1)
       replace hf30_1 := hf30_1.step hst
       replace hf30_2 := hf30_2.step hst
       replace hb33 := he62.box hb33 ((MS.outs (P := [[b0_10]]) hpk2 1 rfl) _ mem1)
       replace hb43 := he62.box hb43 ((MS.outs (P := [[b0_10]]) hpk2 0 rfl) _ mem1)
       replace hf56_1 := hf56_1.step hst
       replace hf56_2 := hf56_2.step hst
       replace hms : MS w62 [blk a0_62, [b43], [b33], [b26], [b19], [b5], [b7], [b0_10], M] := (MS.call (P := [[b0_10]]) (R := [[b43], [b33], [b26], [b19], [b5], [b7], M]) (res := [blk a0_62]) (par := [[b0_10]]) hpk2 he62 hmn62 hfn62 (NP.init _ _)).pick [some 0, some 2, some 3, some 4, some 5, some 6, some 7, some 1, some 8] _ rfl
       have hPf : ∀ b ∈ fl [[b0_10]], w.heap.size ≤ b := FR.mem (ls := [[b0_10]]) (hfr.pick [some 6] _ rfl)
       have hfr2 : FR w.heap.size [blk a0_62, [b43], [b33], [b26], [b19], [b5], [b7], [b0_10]] := (FR.cons (fun b hb => Nat.le_trans hev.size (hfn62.at 0 rfl b hb)) (FR.cons (hfr.at 0 rfl) (FR.cons (hfr.at 1 rfl) (FR.cons (hfr.at 2 rfl) (FR.cons (hfr.at 3 rfl) (FR.cons (hfr.at 4 rfl) (FR.cons (hfr.at 5 rfl) (FR.cons (hfr.at 6 rfl) (FR.nil _)))))))))
       replace hev := hev.then he62 (fun b hb => .inr (hPf b hb))
       replace hfr := hfr2
       clear hfr2
       replace hf10_1 := hp62_0
       replace hf62_1 := OwnS.plain (M' := fl [blk a0_62, [b43], [b33], [b26], [b19], [b5], [b7], [b0_10], M]) (plain_prod (plain_int _) (plain_prod (plain_int _) (plain_prod (plain_int _) (plain_int _)))) hf62_1
       clear hpk hsb hsb0 hpk2 hsb2 hst0 hsn hst
       have hpk : MS w62 [[b43], [b33], [b26], [b19], [b5], [b7], [b0_10], M] := hms.pick [some 1, some 2, some 3, some 4, some 5, some 6, some 7, some 8] _ rfl
       have hsu : ∀ x ∈ fl [[b43], [b33], [b26], [b19], [b5], [b7], [b0_10], M], x ∈ fl [blk a0_62, [b43], [b33], [b26], [b19], [b5], [b7], [b0_10], M] := pick_sub [some 1, some 2, some 3, some 4, some 5, some 6, some 7, some 8] _ rfl
       replace hs_p1_0 := hs_p1_0.sub hsu
       replace hs_p2_0_1 := hs_p2_0_1.sub hsu
       replace hs_p2_1 := hs_p2_1.sub hsu
       replace hf10_2 := hf10_2.sub hsu
       replace hf17_1 := hf17_1.sub hsu
       replace hf23_1 := hf23_1.sub hsu
       replace hf23_2 := hf23_2.sub hsu
       replace hf30_1 := hf30_1.sub hsu
       replace hf30_2 := hf30_2.sub hsu
       replace hf56_1 := hf56_1.sub hsu
       replace hf56_2 := hf56_2.sub hsu
       replace hf62_1 := hf62_1.ro hsu (pick_out hms 0 rfl [some 1, some 2, some 3, some 4, some 5, some 6, some 7, some 8] [[b43], [b33], [b26], [b19], [b5], [b7], [b0_10], M] rfl rfl)
       replace hms := hpk
       replace hfr : FR w.heap.size [[b43], [b33], [b26], [b19], [b5], [b7], [b0_10]] := hfr.pick [some 1, some 2, some 3, some 4, some 5, some 6, some 7] _ rfl
       clear hpk hsu
       obtain ⟨w64, hr64, hb64, he64⟩ := store_boxagg 0 [.slice a0_62 (x61.1.1).length c0_62, Vi x61.1.2] #[.slice a0_62 (x61.1.1).length c0_62, Vi x61.1.2] tagg25 hb19 rfl rfl rfl
       refine x_store w64 (xv := Vp b19 0) (yv := .agg #[.slice a0_62 (x61.1.1).length c0_62, Vi x61.1.2]) rfl rfl rfl rfl hr64 ?_
       refine inl1 ?_
       have hst := Stp.ev' (ls := [[b43], [b33], [b26], [b19], [b5], [b7], [b0_10], M]) he64 (mem_flat 3 rfl)
       replace hb5 := he64.box hb5 (hms.apart 4 3 rfl rfl rfl _ mem1)
       replace hs_p1_0 := hs_p1_0.step hst
       replace hb7 := he64.box hb7 (hms.apart 5 3 rfl rfl rfl _ mem1)
       replace hs_p2_0_1 := hs_p2_0_1.step hst
       replace hs_p2_1 := hs_p2_1.step hst
       replace hf10_1 := he64.box hf10_1 (hms.apart 6 3 rfl rfl rfl _ mem1)
       replace hf10_2 := hf10_2.step hst
       replace hf17_1 := hf17_1.step hst
       replace hf23_1 := hf23_1.step hst
       replace hf23_2 := hf23_2.step hst
       replace hb26 := he64.box hb26 (hms.apart 2 3 rfl rfl rfl _ mem1)
       replace hf30_1 := hf30_1.step hst
       replace hf30_2 := hf30_2.step hst
       replace hb33 := he64.box hb33 (hms.apart 1 3 rfl rfl rfl _ mem1)
       replace hb43 := he64.box hb43 (hms.apart 0 3 rfl rfl rfl _ mem1)
       replace hf56_1 := hf56_1.step hst
       replace hf56_2 := hf56_2.step hst
       replace hf62_1 := hf62_1.step hst
       replace hms := hms.ev he64
       replace hev := hev.then he64 (fun b hb => .inr (hfr.at 3 rfl b hb))
       replace hb19 := hb64
       refine x_end rfl ?_
       have hpk : MS w64 [[b5], [b7], [b0_10], [b19], [b43], M] := hms.pick [some 4, some 5, some 6, some 3, some 0, some 7] _ rfl
       have hsu : ∀ x ∈ fl [[b5], [b7], [b0_10], [b19], [b43], M], x ∈ fl [[b43], [b33], [b26], [b19], [b5], [b7], [b0_10], M] := pick_sub [some 4, some 5, some 6, some 3, some 0, some 7] _ rfl
       replace hs_p1_0 := hs_p1_0.sub hsu
       replace hs_p2_0_1 := hs_p2_0_1.sub hsu
       replace hs_p2_1 := hs_p2_1.sub hsu
       replace hf10_2 := hf10_2.sub hsu
       replace hf62_1 := hf62_1.sub hsu
       replace hf56_1 := hf56_1.sub hsu
       replace hf56_2 := hf56_2.sub hsu
       replace hms := hpk
       replace hfr : FR w.heap.size [[b5], [b7], [b0_10], [b19], [b43]] := hfr.pick [some 4, some 5, some 6, some 3, some 0] _ rfl
       clear hpk hsu
       exact k_then ⟨(x61.2, x61.1.1, x61.1.2, a0_62, c0_62), ⟨rfl, rfl, rfl, rfl, rfl, rfl, trivial⟩, h, hev, hms, hfr, hs_p1_0, hb5, hs_p2_0_1, hs_p2_1, hb7, hf10_2, hf10_1, hf62_1, hb19, hf56_1, hf56_2, hb43⟩
     replace h := ite_f hb h
     refine c_skip ?_
     have hpk : MS w59 [[b5], [b7], [b0_10], [b19], [b43], M] := hms.pick [some 4, some 5, some 6, some 3, some 0, some 7] _ rfl
     have hsu : ∀ x ∈ fl [[b5], [b7], [b0_10], [b19], [b43], M], x ∈ fl [[b43], [b33], [b26], [b19], [b5], [b7], [b0_10], M] := pick_sub [some 4, some 5, some 6, some 3, some 0, some 7] _ rfl
     replace hs_p1_0 := hs_p1_0.sub hsu
     replace hs_p2_0_1 := hs_p2_0_1.sub hsu
     replace hs_p2_1 := hs_p2_1.sub hsu
     replace hf10_2 := hf10_2.sub hsu
     replace hf17_1 := hf17_1.sub hsu
     replace hf56_1 := hf56_1.sub hsu
     replace hf56_2 := hf56_2.sub hsu
     replace hms := hpk
     replace hfr : FR w.heap.size [[b5], [b7], [b0_10], [b19], [b43]] := hfr.pick [some 4, some 5, some 6, some 3, some 0] _ rfl
     clear hpk hsu
     exact k_then ⟨(x55.2, x16.1.1, x16.1.2, a0_17, c0_17), ⟨rfl, rfl, rfl, rfl, rfl, rfl, trivial⟩, h, hev, hms, hfr, hs_p1_0, hb5, hs_p2_0_1, hs_p2_1, hb7, hf10_2, hf10_1, hf17_1, hb19, hf56_1, hf56_2, hb43⟩
   rintro ⟨e11_j60_1, d63_j60, e20_j60_1, a63_j60, c63_j60⟩ J wj60 ⟨h, hev, hms, hfr, hs_p1_0, hb5, hs_p2_0_1, hs_p2_1, hb7, hf10_2, hf10_1, hj63_j60, hb19, hf56_1, hf56_2, hb43⟩
   refine c_seq ?_
   refine c_drawn [] [(0, false), (1, false), (3, false), (4, false), (2, false), (5, true), (6, false)] _ (by kernel_rfl) rfl ?_
   have hst := Stp.ext (ls := [[b5], [b7], [b0_10], [b19], [b43], M]) (Ev.drew wj60)
   replace hb5 := (Ev.drew wj60).box hb5 nn
   replace hs_p1_0 := hs_p1_0.step hst
   replace hb7 := (Ev.drew wj60).box hb7 nn
   replace hs_p2_0_1 := hs_p2_0_1.step hst
   replace hs_p2_1 := hs_p2_1.step hst
   replace hf10_1 := (Ev.drew wj60).box hf10_1 nn
   replace hf10_2 := hf10_2.step hst
   replace hb19 := (Ev.drew wj60).box hb19 nn
   replace hj63_j60 := hj63_j60.step hst
   replace hb43 := (Ev.drew wj60).box hb43 nn
   replace hf56_1 := hf56_1.step hst
   replace hf56_2 := hf56_2.step hst
   replace hms := hms.ev (Ev.drew wj60)
   replace hev := hev.ext (Ev.drew wj60)
   refine x_load (xv := Vp b19 0) (.agg #[.slice a63_j60 (d63_j60).length c63_j60, Vi e20_j60_1]) rfl rfl rfl (reads_boxagg 0 [.slice a63_j60 (d63_j60).length c63_j60, Vi e20_j60_1] tagg25 hb19 nn rfl) ?_
   refine x_load (xv := Vp b43 0) (.agg #[Vi x55.1.1.1, .slice a0_56 (x55.1.1.2).length c0_56, .slice a2_56 (x55.1.2).length c2_56]) rfl rfl rfl (reads_boxagg 0 [Vi x55.1.1.1, .slice a0_56 (x55.1.1.2).length c0_56, .slice a2_56 (x55.1.2).length c2_56] tagg29 hb43 nn rfl) ?_
   refine x_load (xv := Vp b19 0) (.agg #[.slice a63_j60 (d63_j60).length c63_j60, Vi e20_j60_1]) rfl rfl rfl (reads_boxagg 0 [.slice a63_j60 (d63_j60).length c63_j60, Vi e20_j60_1] tagg25 hb19 nn rfl) ?_
   refine x_load (xv := Vp b43 0) (.agg #[Vi x55.1.1.1, .slice a0_56 (x55.1.1.2).length c0_56, .slice a2_56 (x55.1.2).length c2_56]) rfl rfl rfl (reads_boxagg 0 [Vi x55.1.1.1, .slice a0_56 (x55.1.1.2).length c0_56, .slice a2_56 (x55.1.2).length c2_56] tagg29 hb43 nn rfl) ?_
   obtain ⟨x65, hx, h⟩ := bind_some h
   have hpk : MS (wj60).drew ([] ++ [[b5], [b7], [b0_10], [b19], [b43], M]) := hms.pick [some 0, some 1, some 2, some 3, some 4, some 5] _ rfl
   have hsb0 : ∀ x ∈ fl ([] ++ [[b5], [b7], [b0_10], [b19], [b43], M]), x ∈ fl [[b5], [b7], [b0_10], [b19], [b43], M] := pick_sub [some 0, some 1, some 2, some 3, some 4, some 5] _ rfl
   have hsb : ∀ x ∈ fl ([] ++ [(fl [[b5], [b7], [b0_10], [b19], [b43], M])]), x ∈ fl [[b5], [b7], [b0_10], [b19], [b43], M] := fun x hx => hsb0 x (fl_unfold x hx)
   have hcall := certificate_Check_w a63_j60 c63_j60 d63_j60 e20_j60_1 x55.1.1.1 a0_56 c0_56 x55.1.1.2 a2_56 c2_56 x55.1.2 _ (wj60).drew (fl [[b5], [b7], [b0_10], [b19], [b43], M]) (MS.fold (P := []) hpk) (hj63_j60.sub hsb) (hf56_1.sub hsb) (hf56_2.sub hsb) hx
   refine x_call 14 #[] #[] [.agg #[.slice a63_j60 (d63_j60).length c63_j60, Vi e20_j60_1], .agg #[Vi x55.1.1.1, .slice a0_56 (x55.1.1.2).length c0_56, .slice a2_56 (x55.1.2).length c2_56]] _ rfl rfl rfl rfl hcall ?_
   rintro v w66 ⟨rfl, he66⟩
   clear hcall hx
   refine ⟨.inr he66, ?_⟩
   have hst := Stp.ext (ls := [[b5], [b7], [b0_10], [b19], [b43], M]) he66
   replace hb5 := he66.box hb5 nn
   replace hs_p1_0 := hs_p1_0.step hst
   replace hb7 := he66.box hb7 nn
   replace hs_p2_0_1 := hs_p2_0_1.step hst
   replace hs_p2_1 := hs_p2_1.step hst
   replace hf10_1 := he66.box hf10_1 nn
   replace hf10_2 := hf10_2.step hst
   replace hb19 := he66.box hb19 nn
   replace hj63_j60 := hj63_j60.step hst
   replace hb43 := he66.box hb43 nn
   replace hf56_1 := hf56_1.step hst
   replace hf56_2 := hf56_2.step hst
   replace hms := hms.ev he66
   replace hev := hev.ext he66
   clear hpk hsb hsb0
   obtain ⟨x67, hx, h⟩ := bind_some h
   have hpk : MS w66 ([] ++ [[b5], [b7], [b0_10], [b19], [b43], M]) := hms.pick [some 0, some 1, some 2, some 3, some 4, some 5] _ rfl
   have hsb0 : ∀ x ∈ fl ([] ++ [[b5], [b7], [b0_10], [b19], [b43], M]), x ∈ fl [[b5], [b7], [b0_10], [b19], [b43], M] := pick_sub [some 0, some 1, some 2, some 3, some 4, some 5] _ rfl
   have hsb : ∀ x ∈ fl ([] ++ [(fl [[b5], [b7], [b0_10], [b19], [b43], M])]), x ∈ fl [[b5], [b7], [b0_10], [b19], [b43], M] := fun x hx => hsb0 x (fl_unfold x hx)
   have hcall := r15_Check_w a63_j60 c63_j60 d63_j60 e20_j60_1 x55.1.1.1 a0_56 c0_56 x55.1.1.2 a2_56 c2_56 x55.1.2 _ w66 (fl [[b5], [b7], [b0_10], [b19], [b43], M]) (MS.fold (P := []) hpk) (hj63_j60.sub hsb) (hf56_1.sub hsb) (hf56_2.sub hsb) hx
   refine x_call 15 #[] #[] [.agg #[.slice a63_j60 (d63_j60).length c63_j60, Vi e20_j60_1], .agg #[Vi x55.1.1.1, .slice a0_56 (x55.1.1.2).length c0_56, .slice a2_56 (x55.1.2).length c2_56]] _ rfl rfl rfl rfl hcall ?_
   rintro v w68 ⟨rfl, he68⟩
   clear hcall hx
   refine inl1 ?_
   have hst := Stp.ext (ls := [[b5], [b7], [b0_10], [b19], [b43], M]) he68
   replace hb5 := he68.box hb5 nn
   replace hs_p1_0 := hs_p1_0.step hst
   replace hb7 := he68.box hb7 nn
   replace hs_p2_0_1 := hs_p2_0_1.step hst
   replace hs_p2_1 := hs_p2_1.step hst
   replace hf10_1 := he68.box hf10_1 nn
   replace hf10_2 := hf10_2.step hst
   replace hb19 := he68.box hb19 nn
   replace hj63_j60 := hj63_j60.step hst
   replace hb43 := he68.box hb43 nn
   replace hf56_1 := hf56_1.step hst
   replace hf56_2 := hf56_2.step hst
   replace hms := hms.ev he68
   replace hev := hev.ext he68
   clear hpk hsb hsb0
   refine x_pure 1 [(75, .bool (x65 != x67))] _ _ _ (by kernel_rfl) ?_
   refine x_ek ?_
   refine c_norm [(4, Vp b5 0), (5, Vp b7 0), (7, Vp b0_10 0), (8, Vi i_s8_l14), (75, .bool (x65 != x67))] ⟨rfl, rfl, rfl, rfl, rfl, trivial⟩ (fun J => ?_)
   refine c_cond (x65 != x67) rfl (fun hb => ?_) (fun hb => ?_)
   · replace h := ite_t hb h
     refine c_sp ?_
     refine x_pure 1 [(6, .bool false)] _ _ _ (by kernel_rfl) ?_
     refine x_ek ?_
     refine c_ret ?_
     refine k_block_ret ?_
     refine k_then_ret ?_
     have hx := some_inj h
     subst hx
     have hy := some_inj hn14
     subst hy
     replace h := h14
     refine k_then_ret ?_
     refine k_block_ret ?_
     refine k_then_ret ?_
     refine r_ret (r_vals [.bool false] ⟨rfl, trivial⟩ ?_)
     have hx := some_inj h
     subst hx
     have hmr : MS w68 [M] := hms.pick [some 5] _ rfl
     have hsu : ∀ x ∈ fl [M], x ∈ fl [[b5], [b7], [b0_10], [b19], [b43], M] := pick_sub [some 5] _ rfl
     exact ⟨rfl, hev⟩
   replace h := ite_f hb h
   refine c_skip ?_
   refine k_block ?_
   refine k_then ?_
   refine c_plain ?_
   refine x_pure 3 [(19, Vi i_s8_l14), (20, Vi (IntKind.i64.wrap (i_s8_l14 + 1))), (8, Vi (IntKind.i64.wrap (i_s8_l14 + 1)))] _ _ _ (by kernel_rfl) ?_
   refine x_end rfl ?_
   have hx := some_inj h
   subst hx
   have hpk : MS w68 [[b5], [b7], [b0_10], M] := hms.pick [some 0, some 1, some 2, some 5] _ rfl
   have hsu : ∀ x ∈ fl [[b5], [b7], [b0_10], M], x ∈ fl [[b5], [b7], [b0_10], [b19], [b43], M] := pick_sub [some 0, some 1, some 2, some 5] _ rfl
   replace hs_p1_0 := hs_p1_0.sub hsu
   replace hs_p2_0_1 := hs_p2_0_1.sub hsu
   replace hs_p2_1 := hs_p2_1.sub hsu
   replace hf10_2 := hf10_2.sub hsu
   replace hms := hpk
   replace hfr : FR w.heap.size [[b5], [b7], [b0_10]] := hfr.pick [some 0, some 1, some 2] _ rfl
   clear hpk hsu
   exact k_then ⟨(m14, e11_j60_1, IntKind.i64.wrap (i_s8_l14 + 1)), ⟨rfl, rfl, rfl, rfl, trivial⟩, ⟨hn14, hev, hms, hfr, hs_p1_0, hb5, hs_p2_0_1, hs_p2_1, hb7, hf10_2, hf10_1⟩, Nat.lt_succ_self _⟩
 replace h := ite_f hb h
 refine c_exit ?_
 refine k_then_exit ?_
 have hx := some_inj h
 subst hx
 have hy := some_inj hn14
 subst hy
 replace h := h14
 refine k_then_exit ?_
 refine k_block_in ?_
 refine k_then ?_
 refine c_norm [(4, Vp b5 0), (5, Vp b7 0)] ⟨rfl, rfl, trivial⟩ (fun J => ?_)
 refine c_seq ?_
 refine c_join (σ := Bool) (fun s => match s with | t90__s90_j70 => [(4, Vp b5 0), (5, Vp b7 0), (90, .bool t90__s90_j70)]) (fun s w' => match s with | t90__s90_j70 => law15_CertificateExact_J70 p1_0 p1_1 p2_0_0 p2_0_1 p2_1 t90__s90_j70 = some r ∧ Ev [] w w' ∧ MS w' [[b5], [b7], M] ∧ FR w.heap.size [[b5], [b7]] ∧ SlR (eIt4) w' (fl [[b5], [b7], M]) a_p1_0 c_p1_0 p1_0 ∧ w'.heap[b5]? = some (.cells #[.slice a_p1_0 (p1_0).length c_p1_0, Vi p1_1] 25 (0, 0)) ∧ SlR (eInt .i64) w' (fl [[b5], [b7], M]) a_p2_0_1 c_p2_0_1 p2_0_1 ∧ SlR (eInt .i64) w' (fl [[b5], [b7], M]) a_p2_1 c_p2_1 p2_1 ∧ w'.heap[b7]? = some (.cells #[Vi p2_0_0, .slice a_p2_0_1 (p2_0_1).length c_p2_0_1, .slice a_p2_1 (p2_1).length c_p2_1] 29 (0, 0))) ?_ ?_
 · refine c_plain ?_
   refine x_fieldAddr (xv := Vp b5 0) (Vp b5 0) rfl rfl rfl (reads_field tfld25_0 _ _) ?_
   refine x_load (xv := Vp b5 0) (.slice a_p1_0 (p1_0).length c_p1_0) rfl rfl rfl (reads_box tcell23 hb5 nn 0 _ rfl) ?_
   refine x_len (vs := [.slice a_p1_0 (p1_0).length c_p1_0]) (Vi ((p1_0).length : Int)) rfl rfl rfl (reads_len tsl23 _ _ _ _ _) ?_
   refine x_pure 2 [(79, .bool (decide (((p1_0).length : Int) > 30))), (80, .bool (decide (((p1_0).length : Int) > 30)))] _ _ _ (by kernel_rfl) ?_
   refine x_split 80 (decide (((p1_0).length : Int) > 30)) rfl (fun hb => ?_) (fun hb => ?_)
   · replace h := ite_t hb h
     refine x_pure 10 [(81, undef), (82, undef), (83, undef), (84, undef), (85, undef), (86, undef), (87, undef), (88, undef), (89, undef), (90, .bool true)] _ _ _ (by kernel_rfl) ?_
     refine x_end rfl ?_
     have hpk : MS wl14 [[b5], [b7], M] := hms.pick [some 0, some 1, some 3] _ rfl
     have hsu : ∀ x ∈ fl [[b5], [b7], M], x ∈ fl [[b5], [b7], [b0_10], M] := pick_sub [some 0, some 1, some 3] _ rfl
     replace hs_p1_0 := hs_p1_0.sub hsu
     replace hs_p2_0_1 := hs_p2_0_1.sub hsu
     replace hs_p2_1 := hs_p2_1.sub hsu
     replace hms := hpk
     replace hfr : FR w.heap.size [[b5], [b7]] := hfr.pick [some 0, some 1] _ rfl
     clear hpk hsu
     exact k_then ⟨true, ⟨rfl, rfl, rfl, trivial⟩, h, hev, hms, hfr, hs_p1_0, hb5, hs_p2_0_1, hs_p2_1, hb7⟩
   replace h := ite_f hb h
   refine x_fieldAddr (xv := Vp b7 0) (Vp b7 0) rfl rfl rfl (reads_field tfld29_0 _ _) ?_
   refine x_fieldAddr (xv := Vp b7 0) (Vp b7 1) rfl rfl rfl (reads_field tfld27_1 _ _) ?_
   refine x_load (xv := Vp b7 1) (.slice a_p2_0_1 (p2_0_1).length c_p2_0_1) rfl rfl rfl (reads_box tcell22 hb7 nn 1 _ rfl) ?_
   refine x_len (vs := [.slice a_p2_0_1 (p2_0_1).length c_p2_0_1]) (Vi ((p2_0_1).length : Int)) rfl rfl rfl (reads_len tsl22 _ _ _ _ _) ?_
   refine x_fieldAddr (xv := Vp b7 0) (Vp b7 2) rfl rfl rfl (reads_field tfld29_1 _ _) ?_
   refine x_load (xv := Vp b7 2) (.slice a_p2_1 (p2_1).length c_p2_1) rfl rfl rfl (reads_box tcell22 hb7 nn 2 _ rfl) ?_
   refine x_len (vs := [.slice a_p2_1 (p2_1).length c_p2_1]) (Vi ((p2_1).length : Int)) rfl rfl rfl (reads_len tsl22 _ _ _ _ _) ?_
   refine x_pure 3 [(88, Vi (IntKind.i64.wrap (((p2_0_1).length : Int) + ((p2_1).length : Int)))), (89, .bool (decide ((IntKind.i64.wrap (((p2_0_1).length : Int) + ((p2_1).length : Int))) > 60))), (90, .bool (decide ((IntKind.i64.wrap (((p2_0_1).length : Int) + ((p2_1).length : Int))) > 60)))] _ _ _ (by kernel_rfl) ?_
   refine x_end rfl ?_
   have hpk : MS wl14 [[b5], [b7], M] := hms.pick [some 0, some 1, some 3] _ rfl
   have hsu : ∀ x ∈ fl [[b5], [b7], M], x ∈ fl [[b5], [b7], [b0_10], M] := pick_sub [some 0, some 1, some 3] _ rfl
   replace hs_p1_0 := hs_p1_0.sub hsu
   replace hs_p2_0_1 := hs_p2_0_1.sub hsu
   replace hs_p2_1 := hs_p2_1.sub hsu
   replace hms := hpk
   replace hfr : FR w.heap.size [[b5], [b7]] := hfr.pick [some 0, some 1] _ rfl
   clear hpk hsu
   exact k_then ⟨decide ((IntKind.i64.wrap (((p2_0_1).length : Int) + ((p2_1).length : Int))) > 60), ⟨rfl, rfl, rfl, trivial⟩, h, hev, hms, hfr, hs_p1_0, hb5, hs_p2_0_1, hs_p2_1, hb7⟩
 rintro t90__s90_j70 J wj70 ⟨h, hev, hms, hfr, hs_p1_0, hb5, hs_p2_0_1, hs_p2_1, hb7⟩
 refine c_cond t90__s90_j70 rfl (fun hb => ?_) (fun hb => ?_)
 · replace h := ite_t hb h
   refine c_sp ?_
   obtain ⟨x71, hx, h⟩ := bind_some h
   have hcall := law15_sane_w _ wj70 hx
   refine x_call 17 #[] #[] [] _ rfl rfl rfl rfl hcall ?_
   rintro v w72 ⟨rfl, he72⟩
   clear hcall hx
   refine inl1 ?_
   have hst := Stp.ext (ls := [[b5], [b7], M]) he72
   replace hb5 := he72.box hb5 nn
   replace hs_p1_0 := hs_p1_0.step hst
   replace hb7 := he72.box hb7 nn
   replace hs_p2_0_1 := hs_p2_0_1.step hst
   replace hs_p2_1 := hs_p2_1.step hst
   replace hms := hms.ev he72
   replace hev := hev.ext he72
   refine x_pure 1 [(6, .bool x71)] _ _ _ (by kernel_rfl) ?_
   refine x_ek ?_
   refine c_norm [(6, .bool x71)] ⟨rfl, trivial⟩ (fun J => ?_)
   refine c_ret ?_
   refine k_then_ret ?_
   refine r_ret (r_vals [.bool x71] ⟨rfl, trivial⟩ ?_)
   have hx := some_inj h
   subst hx
   have hmr : MS w72 [M] := hms.pick [some 2] _ rfl
   have hsu : ∀ x ∈ fl [M], x ∈ fl [[b5], [b7], M] := pick_sub [some 2] _ rfl
   exact ⟨rfl, hev⟩
 replace h := ite_f hb h
 refine c_skip ?_
 refine k_then ?_
 refine c_norm [(4, Vp b5 0), (5, Vp b7 0)] ⟨rfl, rfl, trivial⟩ (fun J => ?_)
 refine c_seq ?_
 refine c_drawn [] [(0, false), (1, false), (3, false), (4, false), (2, false), (5, true), (6, false), (7, false), (8, false), (9, false), (10, false)] _ (by kernel_rfl) rfl ?_
 have hst := Stp.ext (ls := [[b5], [b7], M]) (Ev.drew wj70)
 replace hb5 := (Ev.drew wj70).box hb5 nn
 replace hs_p1_0 := hs_p1_0.step hst
 replace hb7 := (Ev.drew wj70).box hb7 nn
 replace hs_p2_0_1 := hs_p2_0_1.step hst
 replace hs_p2_1 := hs_p2_1.step hst
 replace hms := hms.ev (Ev.drew wj70)
 replace hev := hev.ext (Ev.drew wj70)
 refine x_load (xv := Vp b5 0) (.agg #[.slice a_p1_0 (p1_0).length c_p1_0, Vi p1_1]) rfl rfl rfl (reads_boxagg 0 [.slice a_p1_0 (p1_0).length c_p1_0, Vi p1_1] tagg25 hb5 nn rfl) ?_
 refine x_load (xv := Vp b7 0) (.agg #[Vi p2_0_0, .slice a_p2_0_1 (p2_0_1).length c_p2_0_1, .slice a_p2_1 (p2_1).length c_p2_1]) rfl rfl rfl (reads_boxagg 0 [Vi p2_0_0, .slice a_p2_0_1 (p2_0_1).length c_p2_0_1, .slice a_p2_1 (p2_1).length c_p2_1] tagg29 hb7 nn rfl) ?_
 refine x_load (xv := Vp b5 0) (.agg #[.slice a_p1_0 (p1_0).length c_p1_0, Vi p1_1]) rfl rfl rfl (reads_boxagg 0 [.slice a_p1_0 (p1_0).length c_p1_0, Vi p1_1] tagg25 hb5 nn rfl) ?_
 refine x_load (xv := Vp b7 0) (.agg #[Vi p2_0_0, .slice a_p2_0_1 (p2_0_1).length c_p2_0_1, .slice a_p2_1 (p2_1).length c_p2_1]) rfl rfl rfl (reads_boxagg 0 [Vi p2_0_0, .slice a_p2_0_1 (p2_0_1).length c_p2_0_1, .slice a_p2_1 (p2_1).length c_p2_1] tagg29 hb7 nn rfl) ?_
 obtain ⟨x73, hx, h⟩ := bind_some h
 have hpk : MS (wj70).drew ([] ++ [[b5], [b7], M]) := hms.pick [some 0, some 1, some 2] _ rfl
 have hsb0 : ∀ x ∈ fl ([] ++ [[b5], [b7], M]), x ∈ fl [[b5], [b7], M] := pick_sub [some 0, some 1, some 2] _ rfl
 have hsb : ∀ x ∈ fl ([] ++ [(fl [[b5], [b7], M])]), x ∈ fl [[b5], [b7], M] := fun x hx => hsb0 x (fl_unfold x hx)
 have hcall := certificate_Check_w a_p1_0 c_p1_0 p1_0 p1_1 p2_0_0 a_p2_0_1 c_p2_0_1 p2_0_1 a_p2_1 c_p2_1 p2_1 _ (wj70).drew (fl [[b5], [b7], M]) (MS.fold (P := []) hpk) (hs_p1_0.sub hsb) (hs_p2_0_1.sub hsb) (hs_p2_1.sub hsb) hx
 refine x_call 14 #[] #[] [.agg #[.slice a_p1_0 (p1_0).length c_p1_0, Vi p1_1], .agg #[Vi p2_0_0, .slice a_p2_0_1 (p2_0_1).length c_p2_0_1, .slice a_p2_1 (p2_1).length c_p2_1]] _ rfl rfl rfl rfl hcall ?_
 rintro v w74 ⟨rfl, he74⟩
 clear hcall hx
 refine ⟨.inr he74, ?_⟩
 have hst := Stp.ext (ls := [[b5], [b7], M]) he74
 replace hb5 := he74.box hb5 nn
 replace hs_p1_0 := hs_p1_0.step hst
 replace hb7 := he74.box hb7 nn
 replace hs_p2_0_1 := hs_p2_0_1.step hst
 replace hs_p2_1 := hs_p2_1.step hst
 replace hms := hms.ev he74
 replace hev := hev.ext he74
 clear hpk hsb hsb0
 obtain ⟨x75, hx, h⟩ := bind_some h
 have hpk : MS w74 ([] ++ [[b5], [b7], M]) := hms.pick [some 0, some 1, some 2] _ rfl
 have hsb0 : ∀ x ∈ fl ([] ++ [[b5], [b7], M]), x ∈ fl [[b5], [b7], M] := pick_sub [some 0, some 1, some 2] _ rfl
 have hsb : ∀ x ∈ fl ([] ++ [(fl [[b5], [b7], M])]), x ∈ fl [[b5], [b7], M] := fun x hx => hsb0 x (fl_unfold x hx)
 have hcall := r15_Check_w a_p1_0 c_p1_0 p1_0 p1_1 p2_0_0 a_p2_0_1 c_p2_0_1 p2_0_1 a_p2_1 c_p2_1 p2_1 _ w74 (fl [[b5], [b7], M]) (MS.fold (P := []) hpk) (hs_p1_0.sub hsb) (hs_p2_0_1.sub hsb) (hs_p2_1.sub hsb) hx
 refine x_call 15 #[] #[] [.agg #[.slice a_p1_0 (p1_0).length c_p1_0, Vi p1_1], .agg #[Vi p2_0_0, .slice a_p2_0_1 (p2_0_1).length c_p2_0_1, .slice a_p2_1 (p2_1).length c_p2_1]] _ rfl rfl rfl rfl hcall ?_
 rintro v w76 ⟨rfl, he76⟩
 clear hcall hx
 refine inl1 ?_
 have hst := Stp.ext (ls := [[b5], [b7], M]) he76
 replace hb5 := he76.box hb5 nn
 replace hs_p1_0 := hs_p1_0.step hst
 replace hb7 := he76.box hb7 nn
 replace hs_p2_0_1 := hs_p2_0_1.step hst
 replace hs_p2_1 := hs_p2_1.step hst
 replace hms := hms.ev he76
 replace hev := hev.ext he76
 clear hpk hsb hsb0
 refine x_pure 2 [(98, .bool (x73 == x75)), (99, .bool (x73 == x75))] _ _ _ (by kernel_rfl) ?_
 refine x_split 99 (x73 == x75) rfl (fun hb => ?_) (fun hb => ?_)
 · replace h := ite_t hb h
   obtain ⟨x77, hx, h⟩ := bind_some h
   have hcall := law15_sane_w _ w76 hx
   refine x_call 17 #[] #[] [] _ rfl rfl rfl rfl hcall ?_
   rintro v w78 ⟨rfl, he78⟩
   clear hcall hx
   refine ⟨.inr he78, ?_⟩
   have hst := Stp.ext (ls := [[b5], [b7], M]) he78
   replace hb5 := he78.box hb5 nn
   replace hs_p1_0 := hs_p1_0.step hst
   replace hb7 := he78.box hb7 nn
   replace hs_p2_0_1 := hs_p2_0_1.step hst
   replace hs_p2_1 := hs_p2_1.step hst
   replace hms := hms.ev he78
   replace hev := hev.ext he78
   refine x_pure 2 [(101, .bool x77), (6, .bool x77)] _ _ _ (by kernel_rfl) ?_
   refine x_ek ?_
   refine c_ret ?_
   refine r_ret (r_vals [.bool x77] ⟨rfl, trivial⟩ ?_)
   have hx := some_inj h
   subst hx
   have hmr : MS w78 [M] := hms.pick [some 2] _ rfl
   have hsu : ∀ x ∈ fl [M], x ∈ fl [[b5], [b7], M] := pick_sub [some 2] _ rfl
   exact ⟨rfl, hev⟩
 replace h := ite_f hb h
 refine x_pure 3 [(100, undef), (101, .bool false), (6, .bool false)] _ _ _ (by kernel_rfl) ?_
 refine x_ek ?_
 refine c_ret ?_
 refine r_ret (r_vals [.bool false] ⟨rfl, trivial⟩ ?_)
 have hx := some_inj h
 subst hx
 have hmr : MS w76 [M] := hms.pick [some 2] _ rfl
 have hsu : ∀ x ∈ fl [M], x ∈ fl [[b5], [b7], M] := pick_sub [some 2] _ rfl
 exact ⟨rfl, hev⟩
end Go.Proofs.Ytcignnfdpgeogaa
