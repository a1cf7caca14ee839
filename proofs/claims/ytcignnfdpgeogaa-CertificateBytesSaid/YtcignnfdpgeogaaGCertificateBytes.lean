
/- Walks, printed by program: each function returns what the partial function of the same name returns. Conditions: those of each theorem. -/
import Derived.Test.YtcignnfdpgeogaaGT
import Derived.Test.YtcignnfdpgeogaaGcertificate
import Derived.Test.YtcignnfdpgeogaaGgen
import Derived.Test.YtcignnfdpgeogaaGlaw15sane
import Derived.Test.YtcignnfdpgeogaaGlaw15spoil
import Derived.Test.YtcignnfdpgeogaaGr15
set_option linter.unusedVariables false
set_option linter.unusedSimpArgs false
set_option maxRecDepth 4000
namespace Go.Proofs.Ytcignnfdpgeogaa
open Go Go.V Go.Proofs
def law15_CertificateBytes_L58 (p2 : List Int) (x37 : (List Int) × Int) (x53 : (List Int) × Int) (s : Int) : Option (Step Int (Unit ⊕ Unit)) :=
match s with
| t98__s98_l58 =>
(if (decide (t98__s98_l58 < ((([p2, x37.1, x53.1] : List (List Int))).length : Int))) = true then
((idx ([p2, x37.1, x53.1] : List (List Int)) t98__s98_l58).bind fun x60 =>
(if (decide (((x60).length : Int) > 600)) = true then
some (.next (IntKind.i64.wrap (t98__s98_l58 + 1)))
else
((certificate_Decode x60).bind fun x65 =>
((r15_Decode x60).bind fun x72 =>
((gen_Proofs x65.1.1.1 x65.1.1.2 x65.1.2 x72.1.1.1 x72.1.1.2 x72.1.2).bind fun x80 =>
(if (!x80) = true then
some (.done (.inl ()))
else
(if (x65.2 != x72.2) = true then
some (.done (.inl ()))
else
(if (x65.2 == 0) = true then
((certificate_Encode x65.1.1.1 x65.1.1.2 x65.1.2).bind fun x82 =>
(if (x82.2 != 0) = true then
some (.done (.inl ()))
else
((gen_Bytes x60 x82.1).bind fun x85 =>
(if (!x85) = true then
some (.done (.inl ()))
else
some (.next (IntKind.i64.wrap (t98__s98_l58 + 1)))))))
else
some (.next (IntKind.i64.wrap (t98__s98_l58 + 1)))))))))))
else
some (.done (.inr ())))

def law15_CertificateBytes_J43 (p2 : List Int) (x7 : ((List Int) × Int)) (i_s8_l11 : Int) (e9_j23_1 : Int) (x37 : (List Int) × Int) : Option (Step (Int × Int) (Unit ⊕ Unit)) :=
((gen_Maker_SpoilBytes x7.1 e9_j23_1 x37.1).bind fun x53 =>
((loop (law15_CertificateBytes_L58 p2 x37 x53) 0).bind fun d => match d with
| (.inl _) => some (.done (.inl ()))
| (.inr _) => some (.next (x53.2, IntKind.i64.wrap (i_s8_l11 + 1)))))

def law15_CertificateBytes_J23 (p2 : List Int) (x7 : ((List Int) × Int)) (i_s8_l11 : Int) (e9_j23_1 : Int) (e21_j23_0 : Int) (d30_j23 : List Int) (d31_j23 : List Int) : Option (Step (Int × Int) (Unit ⊕ Unit)) :=
((certificate_Encode e21_j23_0 d30_j23 d31_j23).bind fun x34 =>
((r15_Encode e21_j23_0 d30_j23 d31_j23).bind fun x37 =>
((gen_Bytes x34.1 x37.1).bind fun x41 =>
(if (!x41) = true then
some (.done (.inl ()))
else
(if (x34.2 != x37.2) = true then
some (.done (.inl ()))
else
(if (x34.2 == 0) = true then
((certificate_Decode x34.1).bind fun x44 =>
(if (x44.2 != 0) = true then
some (.done (.inl ()))
else
((gen_Proofs x44.1.1.1 x44.1.1.2 x44.1.2 e21_j23_0 d30_j23 d31_j23).bind fun x51 =>
(if (!x51) = true then
some (.done (.inl ()))
else
law15_CertificateBytes_J43 p2 x7 i_s8_l11 e9_j23_1 x37))))
else
law15_CertificateBytes_J43 p2 x7 i_s8_l11 e9_j23_1 x37))))))

def law15_CertificateBytes_L11 (p1_0_0 : Int) (p1_0_1 : List Int) (p1_1 : List Int) (p2 : List Int) (x7 : ((List Int) × Int)) (s : Int × Int) : Option (Step (Int × Int) (Unit ⊕ Unit)) :=
match s with
| (e9_l11_1, i_s8_l11) =>
(if (decide (i_s8_l11 < 3)) = true then
((gen_Maker_Job x7.1 e9_l11_1 10).bind fun x13 =>
((r15_Make x13.1.1 x13.1.2).bind fun x16 =>
(if (i_s8_l11 == 1) = true then
((law15_spoil x7.1 x13.2 x16.1.1.1 x16.1.1.2 x16.1.2).bind fun x24 =>
((law15_spoil x7.1 x24.2 x24.1.1.1 x24.1.1.2 x24.1.2).bind fun x28 =>
law15_CertificateBytes_J23 p2 x7 i_s8_l11 x28.2 x28.1.1.1 x28.1.1.2 x28.1.2))
else
(if (i_s8_l11 == 2) = true then
(if (decide ((IntKind.i64.wrap (((p1_0_1).length : Int) + ((p1_1).length : Int))) ≤ 200)) = true then
law15_CertificateBytes_J23 p2 x7 i_s8_l11 x13.2 p1_0_0 p1_0_1 p1_1
else
law15_CertificateBytes_J23 p2 x7 i_s8_l11 x13.2 x16.1.1.1 x16.1.1.2 x16.1.2)
else
law15_CertificateBytes_J23 p2 x7 i_s8_l11 x13.2 x16.1.1.1 x16.1.1.2 x16.1.2))))
else
some (.done (.inr ())))

def law15_CertificateBytes (p0 : List Int) (p1_0_0 : Int) (p1_0_1 : List Int) (p1_1 : List Int) (p2 : List Int) : Option Bool :=
((gen_New p0).bind fun x7 =>
((loop (law15_CertificateBytes_L11 p1_0_0 p1_0_1 p1_1 p2 x7) (x7.2, 0)).bind fun d => match d with
| (.inl _) => some false
| (.inr _) => ((law15_sane).bind fun x87 =>
some x87)))

theorem law15_CertificateBytes_w (a_p0 : Option Addr) (c_p0 : Nat) (p0 : List Int) (p1_0_0 : Int) (a_p1_0_1 : Option Addr) (c_p1_0_1 : Nat) (p1_0_1 : List Int) (a_p1_1 : Option Addr) (c_p1_1 : Nat) (p1_1 : List Int) (a_p2 : Option Addr) (c_p2 : Nat) (p2 : List Int) (r : Bool) (w : World) (M : List Nat) (hms : MS w [M]) (hs_p0 : SlR (eInt .i64) w (fl [M]) a_p0 c_p0 p0) (hs_p1_0_1 : SlR (eInt .i64) w (fl [M]) a_p1_0_1 c_p1_0_1 p1_0_1) (hs_p1_1 : SlR (eInt .i64) w (fl [M]) a_p1_1 c_p1_1 p1_1) (hs_p2 : SlR (eInt .u8) w (fl [M]) a_p2 c_p2 p2) (h : law15_CertificateBytes p0 p1_0_0 p1_0_1 p1_1 p2 = some r) : CallVC Try.prog 6 [Vl a_p0 p0 c_p0, .agg #[Vi p1_0_0, Vl a_p1_0_1 p1_0_1 c_p1_0_1, Vl a_p1_1 p1_1 c_p1_1], Vl a_p2 p2 c_p2] w fun v w' => v = .bool r ∧ Ev [] w w' := by
 refine calls_vc hmx Try.func6 (by kernel_rfl) rfl (rs := [.tmp 6]) rfl (by kernel_rfl) (args := [Vl a_p0 p0 c_p0, .agg #[Vi p1_0_0, Vl a_p1_0_1 p1_0_1 c_p1_0_1, Vl a_p1_1 p1_1 c_p1_1], Vl a_p2 p2 c_p2]) rfl ?_
 have hev : Ev [] w w := Ev.refl _ _
 have hfr : FR w.heap.size [] := FR.nil _
 refine c_sp ?_
 refine x_box (xv := .agg #[Vi p1_0_0, Vl a_p1_0_1 p1_0_1 c_p1_0_1, Vl a_p1_1 p1_1 c_p1_1]) rfl rfl rfl (fun b5 w5 hq5 hb5 he5 hz5 => ?_)
 replace hb5 : w5.heap[b5]? = some (.cells #[Vi p1_0_0, Vl a_p1_0_1 p1_0_1 c_p1_0_1, Vl a_p1_1 p1_1 c_p1_1] 29 (0, 0)) := hb5
 refine inl1 ?_
 have hst := Stp.box (ls := [M]) he5 hq5
 replace hs_p0 := hs_p0.step hst
 replace hs_p1_0_1 := hs_p1_0_1.step hst
 replace hs_p1_1 := hs_p1_1.step hst
 replace hs_p2 := hs_p2.step hst
 replace hms := hms.box he5 hq5 hb5
 replace hfr := hfr.box hev.size hq5
 replace hev := hev.ext he5
 refine x_u 1 [(6, .bool false)] ?_
 refine x_ek ?_
 refine c_sp ?_
 refine x_u 1 [(25, Vl a_p0 p0 c_p0)] ?_
 obtain ⟨x7, hx, h⟩ := bind_some h
 have hpk : MS w5 ([] ++ [[b5], M]) := hms.pick [some 0, some 1] _ rfl
 have hsb0 : ∀ x ∈ fl ([] ++ [[b5], M]), x ∈ fl [[b5], M] := pick_sub [some 0, some 1] _ rfl
 have hsb : ∀ x ∈ fl ([] ++ [(fl [[b5], M])]), x ∈ fl [[b5], M] := fun x hx => hsb0 x (fl_unfold x hx)
 have hcall := gen_New_w a_p0 c_p0 p0 _ w5 (fl [[b5], M]) (MS.fold (P := []) hpk) (hs_p0.sub hsb) hx
 refine x_call 8 #[] #[] [Vl a_p0 p0 c_p0] _ rfl rfl rfl rfl hcall ?_
 rintro v w8 ⟨b0_8, a1_8, c1_8, rfl, he8, hmn8, hfn8, hf8_1, hf8_2⟩
 clear hcall hx
 refine inl1 ?_
 have hpk2 : MS w5 ([] ++ [[b5], M]) := hms.pick [some 0, some 1] _ rfl
 have hsb2 : ∀ x ∈ fl ([] ++ [[b5], M]), x ∈ fl [[b5], M] := pick_sub [some 0, some 1] _ rfl
 have hst0 := Stp.call (LS := [[b5], M]) (res := [[b0_8]]) (par := []) (R := [[b5], M]) he8 (fun b hb => hsb2 b (fl_left' (P := []) b hb)) hfn8 (NP.init _ _) (fun x hx => hsb2 x (fl_right' (P := []) x hx))
 have hsn : ∀ x ∈ fl [[b0_8], [b5], M], x ∈ fl ([[b0_8]] ++ ([] ++ [[b5], M])) := pick_sub [some 0, some 1, some 2] _ rfl
 have hst := hst0.res hsn
 replace hs_p0 := hs_p0.step hst
 replace hs_p1_0_1 := hs_p1_0_1.step hst
 replace hs_p1_1 := hs_p1_1.step hst
 replace hs_p2 := hs_p2.step hst
 replace hb5 := he8.box hb5 ((MS.outs (P := []) hpk2 0 rfl) _ mem1)
 replace hms : MS w8 [[b0_8], [b5], M] := (MS.call (P := []) (R := [[b5], M]) (res := [[b0_8]]) (par := []) hpk2 he8 hmn8 hfn8 (NP.init _ _)).pick [some 0, some 1, some 2] _ rfl
 have hfr2 : FR w.heap.size [[b0_8], [b5]] := (FR.cons (fun b hb => Nat.le_trans hev.size (hfn8.at 0 rfl b hb)) (FR.cons (hfr.at 0 rfl) (FR.nil _)))
 replace hev := hev.ext he8
 replace hfr := hfr2
 clear hfr2
 have hsp : ∀ x ∈ fl [[b0_8], [b5], M], x ∈ fl ([[b0_8]] ++ ([] ++ [(fl [[b5], M])])) := fun x hx => fl_tot (res := [[b0_8]]) (par := []) (R := [[b5], M]) x (hsn x hx)
 replace hf8_2 := hf8_2.sub hsp
 clear hpk hsb hsb0 hpk2 hsb2 hst0 hsn hst
 refine x_u 1 [(7, Vp b0_8 0)] ?_
 refine x_ek ?_
 refine c_seq ?_
 refine c_sp ?_
 refine x_u 1 [(8, Vi 0)] ?_
 refine x_ek ?_
 refine c_block ?_
 have hpk : MS w8 [[b5], [b0_8], M] := hms.pick [some 1, some 0, some 2] _ rfl
 have hsu : ∀ x ∈ fl [[b5], [b0_8], M], x ∈ fl [[b0_8], [b5], M] := pick_sub [some 1, some 0, some 2] _ rfl
 replace hs_p2 := hs_p2.sub hsu
 replace hs_p1_0_1 := hs_p1_0_1.sub hsu
 replace hs_p1_1 := hs_p1_1.sub hsu
 replace hf8_2 := hf8_2.sub hsu
 replace hms := hpk
 replace hfr : FR w.heap.size [[b5], [b0_8]] := hfr.pick [some 1, some 0] _ rfl
 clear hpk hsu
 obtain ⟨d11, hd11, h11⟩ := bind_some h
 obtain ⟨m11, hd11⟩ := loop_some hd11
 refine c_loop (loop_rule hmx (σ := Nat × Int × Int) (fun s => match s with | (_, e9_l11_1, i_s8_l11) => [(2, Vl a_p2 p2 c_p2), (4, Vp b5 0), (7, Vp b0_8 0), (8, Vi i_s8_l11)]) (fun s w' => match s with | (m, e9_l11_1, i_s8_l11) => loopN (law15_CertificateBytes_L11 p1_0_0 p1_0_1 p1_1 p2 x7) m (e9_l11_1, i_s8_l11) = some d11 ∧ Ev [] w w' ∧ MS w' [[b5], [b0_8], M] ∧ FR w.heap.size [[b5], [b0_8]] ∧ SlR (eInt .u8) w' (fl [[b5], [b0_8], M]) a_p2 c_p2 p2 ∧ SlR (eInt .i64) w' (fl [[b5], [b0_8], M]) a_p1_0_1 c_p1_0_1 p1_0_1 ∧ SlR (eInt .i64) w' (fl [[b5], [b0_8], M]) a_p1_1 c_p1_1 p1_1 ∧ w'.heap[b5]? = some (.cells #[Vi p1_0_0, Vl a_p1_0_1 p1_0_1 c_p1_0_1, Vl a_p1_1 p1_1 c_p1_1] 29 (0, 0)) ∧ SlR (eInt .i64) w' (fl [[b5], [b0_8], M]) a1_8 c1_8 x7.1 ∧ w'.heap[b0_8]? = some (.cells #[Vl a1_8 x7.1 c1_8, Vi e9_l11_1] 65 (0, 0))) (fun s => s.1) (m11, x7.2, 0) ⟨rfl, rfl, rfl, rfl, trivial⟩ ⟨hd11, hev, hms, hfr, hs_p2, hs_p1_0_1, hs_p1_1, hb5, hf8_2, hf8_1⟩ ?_)
 rintro ⟨m11, e9_l11_1, i_s8_l11⟩ J wl11 ⟨hn11, hev, hms, hfr, hs_p2, hs_p1_0_1, hs_p1_1, hb5, hf8_2, hf8_1⟩
 rcases m11 with _ | m11
 · exact (loopN_zero hn11).elim
 obtain ⟨t11, h, hn11⟩ := bind_some hn11
 refine c_seq ?_
 refine c_sp ?_
 refine x_u 2 [(27, Vi i_s8_l11), (28, .bool (decide (i_s8_l11 < 3)))] ?_
 refine x_ek ?_
 refine c_norm [(2, Vl a_p2 p2 c_p2), (4, Vp b5 0), (7, Vp b0_8 0), (8, Vi i_s8_l11), (28, .bool (decide (i_s8_l11 < 3)))] ⟨rfl, rfl, rfl, rfl, rfl, trivial⟩ (fun J => ?_)
 refine c_if (decide (i_s8_l11 < 3)) rfl h (fun h => ?_) (fun h => ?_)
 · refine c_skip ?_
   refine k_then ?_
   refine c_seq ?_
   refine c_block ?_
   refine c_sp ?_
   refine x_u 1 [(32, Vp b0_8 0)] ?_
   obtain ⟨x13, hx, h⟩ := bind_some h
   have hpk : MS wl11 ([[b0_8]] ++ [[b5], M]) := hms.pick [some 1, some 0, some 2] _ rfl
   have hsb0 : ∀ x ∈ fl ([[b0_8]] ++ [[b5], M]), x ∈ fl [[b5], [b0_8], M] := pick_sub [some 1, some 0, some 2] _ rfl
   have hsb : ∀ x ∈ fl ([[b0_8]] ++ [(fl [[b5], M])]), x ∈ fl [[b5], [b0_8], M] := fun x hx => hsb0 x (fl_unfold x hx)
   have hcall := gen_Maker_Job_w b0_8 a1_8 c1_8 x7.1 e9_l11_1 10 _ wl11 (fl [[b5], M]) (hpk.fold (P := [[b0_8]])) (hf8_2.sub hsb) hf8_1 hx
   refine x_call 9 #[] #[] [Vp b0_8 0, Vi 10] _ rfl rfl rfl rfl hcall ?_
   rintro v w14 ⟨a0_14, c0_14, rfl, he14, hp14_0, hmn14, hfn14, hf14_1⟩
   clear hcall hx
   refine inl1 ?_
   have hpk2 : MS wl11 ([[b0_8]] ++ [[b5], M]) := hms.pick [some 1, some 0, some 2] _ rfl
   have hsb2 : ∀ x ∈ fl ([[b0_8]] ++ [[b5], M]), x ∈ fl [[b5], [b0_8], M] := pick_sub [some 1, some 0, some 2] _ rfl
   have hst0 := Stp.call (LS := [[b5], [b0_8], M]) (res := [blk a0_14]) (par := [[b0_8]]) (R := [[b5], M]) he14 (fun b hb => hsb2 b (fl_left' (P := [[b0_8]]) b hb)) hfn14 (NP.init _ _) (fun x hx => hsb2 x (fl_right' (P := [[b0_8]]) x hx))
   have hsn : ∀ x ∈ fl [blk a0_14, [b5], [b0_8], M], x ∈ fl ([blk a0_14] ++ ([[b0_8]] ++ [[b5], M])) := pick_sub [some 0, some 2, some 1, some 3] _ rfl
   have hst := hst0.res hsn
   replace hs_p2 := hs_p2.step hst
   replace hb5 := he14.box hb5 ((MS.outs (P := [[b0_8]]) hpk2 0 rfl) _ mem1)
   replace hs_p1_0_1 := hs_p1_0_1.step hst
   replace hs_p1_1 := hs_p1_1.step hst
   replace hf8_2 := hf8_2.step hst
   replace hms : MS w14 [blk a0_14, [b5], [b0_8], M] := (MS.call (P := [[b0_8]]) (R := [[b5], M]) (res := [blk a0_14]) (par := [[b0_8]]) hpk2 he14 hmn14 hfn14 (NP.init _ _)).pick [some 0, some 2, some 1, some 3] _ rfl
   have hPf : ∀ b ∈ fl [[b0_8]], w.heap.size ≤ b := FR.mem (ls := [[b0_8]]) (hfr.pick [some 1] _ rfl)
   have hfr2 : FR w.heap.size [blk a0_14, [b5], [b0_8]] := (FR.cons (fun b hb => Nat.le_trans hev.size (hfn14.at 0 rfl b hb)) (FR.cons (hfr.at 0 rfl) (FR.cons (hfr.at 1 rfl) (FR.nil _))))
   replace hev := hev.then he14 (fun b hb => .inr (hPf b hb))
   replace hfr := hfr2
   clear hfr2
   replace hf8_1 := hp14_0
   replace hf14_1 := OwnS.plain (M' := fl [blk a0_14, [b5], [b0_8], M]) (plain_prod (plain_int _) (plain_prod (plain_int _) (plain_prod (plain_int _) (plain_int _)))) hf14_1
   clear hpk hsb hsb0 hpk2 hsb2 hst0 hsn hst
   have hpk : MS w14 [[b5], [b0_8], M] := hms.pick [some 1, some 2, some 3] _ rfl
   have hsu : ∀ x ∈ fl [[b5], [b0_8], M], x ∈ fl [blk a0_14, [b5], [b0_8], M] := pick_sub [some 1, some 2, some 3] _ rfl
   replace hs_p2 := hs_p2.sub hsu
   replace hs_p1_0_1 := hs_p1_0_1.sub hsu
   replace hs_p1_1 := hs_p1_1.sub hsu
   replace hf8_2 := hf8_2.sub hsu
   replace hf14_1 := hf14_1.ro hsu (pick_out hms 0 rfl [some 1, some 2, some 3] [[b5], [b0_8], M] rfl rfl)
   replace hms := hpk
   replace hfr : FR w.heap.size [[b5], [b0_8]] := hfr.pick [some 1, some 2] _ rfl
   clear hpk hsu
   obtain ⟨x16, hx, h⟩ := bind_some h
   have hpk : MS w14 ([] ++ [[b5], [b0_8], M]) := hms.pick [some 0, some 1, some 2] _ rfl
   have hsb0 : ∀ x ∈ fl ([] ++ [[b5], [b0_8], M]), x ∈ fl [[b5], [b0_8], M] := pick_sub [some 0, some 1, some 2] _ rfl
   have hsb : ∀ x ∈ fl ([] ++ [(fl [[b5], [b0_8], M])]), x ∈ fl [[b5], [b0_8], M] := fun x hx => hsb0 x (fl_unfold x hx)
   have hcall := r15_Make_w a0_14 c0_14 x13.1.1 x13.1.2 _ w14 (fl [[b5], [b0_8], M]) (MS.fold (P := []) hpk) (hf14_1.sub hsb) hx
   refine x_call 11 #[] #[] [.agg #[Vl a0_14 x13.1.1 c0_14, Vi x13.1.2]] _ rfl rfl rfl rfl hcall ?_
   rintro v w17 ⟨a0_17, c0_17, a2_17, c2_17, rfl, he17, hmn17, hfn17, hf17_1, hf17_2⟩
   clear hcall hx
   refine inl1 ?_
   have hpk2 : MS w14 ([] ++ [[b5], [b0_8], M]) := hms.pick [some 0, some 1, some 2] _ rfl
   have hsb2 : ∀ x ∈ fl ([] ++ [[b5], [b0_8], M]), x ∈ fl [[b5], [b0_8], M] := pick_sub [some 0, some 1, some 2] _ rfl
   have hst0 := Stp.call (LS := [[b5], [b0_8], M]) (res := [blk a0_17, blk a2_17]) (par := []) (R := [[b5], [b0_8], M]) he17 (fun b hb => hsb2 b (fl_left' (P := []) b hb)) hfn17 (NP.init _ _) (fun x hx => hsb2 x (fl_right' (P := []) x hx))
   have hsn : ∀ x ∈ fl [blk a0_17, blk a2_17, [b5], [b0_8], M], x ∈ fl ([blk a0_17, blk a2_17] ++ ([] ++ [[b5], [b0_8], M])) := pick_sub [some 0, some 1, some 2, some 3, some 4] _ rfl
   have hst := hst0.res hsn
   replace hs_p2 := hs_p2.step hst
   replace hb5 := he17.box hb5 ((MS.outs (P := []) hpk2 0 rfl) _ mem1)
   replace hs_p1_0_1 := hs_p1_0_1.step hst
   replace hs_p1_1 := hs_p1_1.step hst
   replace hf8_1 := he17.box hf8_1 ((MS.outs (P := []) hpk2 1 rfl) _ mem1)
   replace hf8_2 := hf8_2.step hst
   replace hf14_1 := hf14_1.step hst
   replace hms : MS w17 [blk a0_17, blk a2_17, [b5], [b0_8], M] := (MS.call (P := []) (R := [[b5], [b0_8], M]) (res := [blk a0_17, blk a2_17]) (par := []) hpk2 he17 hmn17 hfn17 (NP.init _ _)).pick [some 0, some 1, some 2, some 3, some 4] _ rfl
   have hfr2 : FR w.heap.size [blk a0_17, blk a2_17, [b5], [b0_8]] := (FR.cons (fun b hb => Nat.le_trans hev.size (hfn17.at 0 rfl b hb)) (FR.cons (fun b hb => Nat.le_trans hev.size (hfn17.at 1 rfl b hb)) (FR.cons (hfr.at 0 rfl) (FR.cons (hfr.at 1 rfl) (FR.nil _)))))
   replace hev := hev.ext he17
   replace hfr := hfr2
   clear hfr2
   replace hf17_1 := OwnS.plain (M' := fl [blk a0_17, blk a2_17, [b5], [b0_8], M]) (plain_int _) hf17_1
   replace hf17_2 := OwnS.plain (M' := fl [blk a0_17, blk a2_17, [b5], [b0_8], M]) (plain_int _) hf17_2
   clear hpk hsb hsb0 hpk2 hsb2 hst0 hsn hst
   have hpk : MS w17 [blk a2_17, [b5], [b0_8], M] := hms.pick [some 1, some 2, some 3, some 4] _ rfl
   have hsu : ∀ x ∈ fl [blk a2_17, [b5], [b0_8], M], x ∈ fl [blk a0_17, blk a2_17, [b5], [b0_8], M] := pick_sub [some 1, some 2, some 3, some 4] _ rfl
   replace hs_p2 := hs_p2.sub hsu
   replace hs_p1_0_1 := hs_p1_0_1.sub hsu
   replace hs_p1_1 := hs_p1_1.sub hsu
   replace hf8_2 := hf8_2.sub hsu
   replace hf14_1 := hf14_1.sub hsu
   replace hf17_1 := hf17_1.ro hsu (pick_out hms 0 rfl [some 1, some 2, some 3, some 4] [blk a2_17, [b5], [b0_8], M] rfl rfl)
   replace hf17_2 := hf17_2.sub hsu
   replace hms := hpk
   replace hfr : FR w.heap.size [blk a2_17, [b5], [b0_8]] := hfr.pick [some 1, some 2, some 3] _ rfl
   clear hpk hsu
   have hpk : MS w17 [[b5], [b0_8], M] := hms.pick [some 1, some 2, some 3] _ rfl
   have hsu : ∀ x ∈ fl [[b5], [b0_8], M], x ∈ fl [blk a2_17, [b5], [b0_8], M] := pick_sub [some 1, some 2, some 3] _ rfl
   replace hs_p2 := hs_p2.sub hsu
   replace hs_p1_0_1 := hs_p1_0_1.sub hsu
   replace hs_p1_1 := hs_p1_1.sub hsu
   replace hf8_2 := hf8_2.sub hsu
   replace hf14_1 := hf14_1.sub hsu
   replace hf17_1 := hf17_1.sub hsu
   replace hf17_2 := hf17_2.ro hsu (pick_out hms 0 rfl [some 1, some 2, some 3] [[b5], [b0_8], M] rfl rfl)
   replace hms := hpk
   replace hfr : FR w.heap.size [[b5], [b0_8]] := hfr.pick [some 1, some 2] _ rfl
   clear hpk hsu
   refine x_u 3 [(31, .tuple #[.agg #[Vi x16.1.1.1, Vl a0_17 x16.1.1.2 c0_17, Vl a2_17 x16.1.2 c2_17], Vi x16.2]), (35, .agg #[Vi x16.1.1.1, Vl a0_17 x16.1.1.2 c0_17, Vl a2_17 x16.1.2 c2_17]), (36, Vi x16.2)] ?_
   refine x_alloc (z := .agg #[Vi 0, .slice none 0 0, .slice none 0 0]) rfl rfl (by kernel_rfl) (fun b20 w20 hq20 hb20 he20 hz20 => ?_)
   replace hb20 : w20.heap[b20]? = some (.cells #[Vi 0, .slice none 0 0, .slice none 0 0] 29 (0, 0)) := hb20
   refine inl1 ?_
   have hst := Stp.box (ls := [[b5], [b0_8], M]) he20 hq20
   replace hs_p2 := hs_p2.step hst
   replace hb5 := he20.box hb5 nn
   replace hs_p1_0_1 := hs_p1_0_1.step hst
   replace hs_p1_1 := hs_p1_1.step hst
   replace hf8_1 := he20.box hf8_1 nn
   replace hf8_2 := hf8_2.step hst
   replace hf14_1 := hf14_1.step hst
   replace hf17_1 := hf17_1.step hst
   replace hf17_2 := hf17_2.step hst
   replace hms := hms.box he20 hq20 hb20
   replace hfr := hfr.box hev.size hq20
   replace hev := hev.ext he20
   obtain ⟨w22, hr22, hb22, he22⟩ := store_boxagg 0 [Vi x16.1.1.1, Vl a0_17 x16.1.1.2 c0_17, Vl a2_17 x16.1.2 c2_17] #[Vi x16.1.1.1, Vl a0_17 x16.1.1.2 c0_17, Vl a2_17 x16.1.2 c2_17] tagg29 hb20 rfl rfl rfl
   refine x_store w22 (xv := Vp b20 0) (yv := .agg #[Vi x16.1.1.1, Vl a0_17 x16.1.1.2 c0_17, Vl a2_17 x16.1.2 c2_17]) rfl rfl rfl rfl hr22 ?_
   refine inl1 ?_
   have hst := Stp.ev' (ls := [[b20], [b5], [b0_8], M]) he22 (mem_flat 0 rfl)
   replace hs_p2 := hs_p2.step hst
   replace hb5 := he22.box hb5 (hms.apart 1 0 rfl rfl rfl _ mem1)
   replace hs_p1_0_1 := hs_p1_0_1.step hst
   replace hs_p1_1 := hs_p1_1.step hst
   replace hf8_1 := he22.box hf8_1 (hms.apart 2 0 rfl rfl rfl _ mem1)
   replace hf8_2 := hf8_2.step hst
   replace hf14_1 := hf14_1.step hst
   replace hf17_1 := hf17_1.step hst
   replace hf17_2 := hf17_2.step hst
   replace hms := hms.ev he22
   replace hev := hev.then he22 (fun b hb => .inr (hfr.at 0 rfl b hb))
   replace hb20 := hb22
   refine x_u 1 [(10, Vi x16.2)] ?_
   refine x_ek ?_
   refine c_join (σ := Int × Int × (List Int) × (List Int) × Option Addr × Nat × Option Addr × Nat) (fun s => match s with | (e9_j23_1, e21_j23_0, d30_j23, d31_j23, a30_j23, c30_j23, a31_j23, c31_j23) => [(2, Vl a_p2 p2 c_p2), (4, Vp b5 0), (7, Vp b0_8 0), (8, Vi i_s8_l11), (9, Vp b20 0)]) (fun s w' => match s with | (e9_j23_1, e21_j23_0, d30_j23, d31_j23, a30_j23, c30_j23, a31_j23, c31_j23) => law15_CertificateBytes_J23 p2 x7 i_s8_l11 e9_j23_1 e21_j23_0 d30_j23 d31_j23 = some t11 ∧ Ev [] w w' ∧ MS w' [[b5], [b0_8], [b20], M] ∧ FR w.heap.size [[b5], [b0_8], [b20]] ∧ SlR (eInt .u8) w' (fl [[b5], [b0_8], [b20], M]) a_p2 c_p2 p2 ∧ SlR (eInt .i64) w' (fl [[b5], [b0_8], [b20], M]) a_p1_0_1 c_p1_0_1 p1_0_1 ∧ SlR (eInt .i64) w' (fl [[b5], [b0_8], [b20], M]) a_p1_1 c_p1_1 p1_1 ∧ w'.heap[b5]? = some (.cells #[Vi p1_0_0, Vl a_p1_0_1 p1_0_1 c_p1_0_1, Vl a_p1_1 p1_1 c_p1_1] 29 (0, 0)) ∧ SlR (eInt .i64) w' (fl [[b5], [b0_8], [b20], M]) a1_8 c1_8 x7.1 ∧ w'.heap[b0_8]? = some (.cells #[Vl a1_8 x7.1 c1_8, Vi e9_j23_1] 65 (0, 0)) ∧ SlR (eInt .i64) w' (fl [[b5], [b0_8], [b20], M]) a30_j23 c30_j23 d30_j23 ∧ SlR (eInt .i64) w' (fl [[b5], [b0_8], [b20], M]) a31_j23 c31_j23 d31_j23 ∧ w'.heap[b20]? = some (.cells #[Vi e21_j23_0, Vl a30_j23 d30_j23 c30_j23, Vl a31_j23 d31_j23 c31_j23] 29 (0, 0))) ?_ ?_
   · refine c_sp ?_
     refine x_u 1 [(37, Vi i_s8_l11)] ?_
     refine x_ek ?_
     refine c_block ?_
     refine c_sp ?_
     refine x_u 2 [(39, .bool (i_s8_l11 == 1)), (38, .bool (i_s8_l11 == 1))] ?_
     refine x_ek ?_
     refine c_if (i_s8_l11 == 1) rfl h (fun h => ?_) (fun h => ?_)
     · refine c_plain ?_
       refine x_u 2 [(40, Vp b0_8 0), (41, Vp b0_8 0)] ?_
       refine x_load (xv := Vp b20 0) (.agg #[Vi x16.1.1.1, Vl a0_17 x16.1.1.2 c0_17, Vl a2_17 x16.1.2 c2_17]) rfl rfl rfl (reads_boxagg 0 [Vi x16.1.1.1, Vl a0_17 x16.1.1.2 c0_17, Vl a2_17 x16.1.2 c2_17] tagg29 hb20 nn rfl) ?_
       obtain ⟨x24, hx, h⟩ := bind_some h
       have hpk : MS w22 ([[b0_8]] ++ [[b20], [b5], M]) := hms.pick [some 2, some 0, some 1, some 3] _ rfl
       have hsb0 : ∀ x ∈ fl ([[b0_8]] ++ [[b20], [b5], M]), x ∈ fl [[b20], [b5], [b0_8], M] := pick_sub [some 2, some 0, some 1, some 3] _ rfl
       have hsb : ∀ x ∈ fl ([[b0_8]] ++ [(fl [[b20], [b5], M])]), x ∈ fl [[b20], [b5], [b0_8], M] := fun x hx => hsb0 x (fl_unfold x hx)
       have hcall := law15_spoil_w b0_8 a1_8 c1_8 x7.1 x13.2 x16.1.1.1 a0_17 c0_17 x16.1.1.2 a2_17 c2_17 x16.1.2 _ w22 (fl [[b20], [b5], M]) (hpk.fold (P := [[b0_8]])) (hf8_2.sub hsb) hf8_1 (hf17_1.sub hsb) (hf17_2.sub hsb) hx
       refine x_call 13 #[] #[] [Vp b0_8 0, .agg #[Vi x16.1.1.1, Vl a0_17 x16.1.1.2 c0_17, Vl a2_17 x16.1.2 c2_17]] _ rfl rfl rfl rfl hcall ?_
       rintro v w25 ⟨a0_25, c0_25, a2_25, c2_25, rfl, he25, hp25_0, hmn25, hfn25, hf25_1, hf25_2⟩
       clear hcall hx
       refine inl1 ?_
       have hpk2 : MS w22 ([[b0_8]] ++ [[b20], [b5], M]) := hms.pick [some 2, some 0, some 1, some 3] _ rfl
       have hsb2 : ∀ x ∈ fl ([[b0_8]] ++ [[b20], [b5], M]), x ∈ fl [[b20], [b5], [b0_8], M] := pick_sub [some 2, some 0, some 1, some 3] _ rfl
       have hst0 := Stp.call (LS := [[b20], [b5], [b0_8], M]) (res := [blk a0_25, blk a2_25]) (par := [[b0_8]]) (R := [[b20], [b5], M]) he25 (fun b hb => hsb2 b (fl_left' (P := [[b0_8]]) b hb)) hfn25 (NP.init _ _) (fun x hx => hsb2 x (fl_right' (P := [[b0_8]]) x hx))
       have hsn : ∀ x ∈ fl [blk a0_25, blk a2_25, [b20], [b5], [b0_8], M], x ∈ fl ([blk a0_25, blk a2_25] ++ ([[b0_8]] ++ [[b20], [b5], M])) := pick_sub [some 0, some 1, some 3, some 4, some 2, some 5] _ rfl
       have hst := hst0.res hsn
       replace hs_p2 := hs_p2.step hst
       replace hb5 := he25.box hb5 ((MS.outs (P := [[b0_8]]) hpk2 1 rfl) _ mem1)
       replace hs_p1_0_1 := hs_p1_0_1.step hst
       replace hs_p1_1 := hs_p1_1.step hst
       replace hf8_2 := hf8_2.step hst
       replace hf17_1 := hf17_1.step hst
       replace hf17_2 := hf17_2.step hst
       replace hb20 := he25.box hb20 ((MS.outs (P := [[b0_8]]) hpk2 0 rfl) _ mem1)
       replace hms : MS w25 [blk a0_25, blk a2_25, [b20], [b5], [b0_8], M] := (MS.call (P := [[b0_8]]) (R := [[b20], [b5], M]) (res := [blk a0_25, blk a2_25]) (par := [[b0_8]]) hpk2 he25 hmn25 hfn25 (NP.init _ _)).pick [some 0, some 1, some 3, some 4, some 2, some 5] _ rfl
       have hPf : ∀ b ∈ fl [[b0_8]], w.heap.size ≤ b := FR.mem (ls := [[b0_8]]) (hfr.pick [some 2] _ rfl)
       have hfr2 : FR w.heap.size [blk a0_25, blk a2_25, [b20], [b5], [b0_8]] := (FR.cons (fun b hb => Nat.le_trans hev.size (hfn25.at 0 rfl b hb)) (FR.cons (fun b hb => Nat.le_trans hev.size (hfn25.at 1 rfl b hb)) (FR.cons (hfr.at 0 rfl) (FR.cons (hfr.at 1 rfl) (FR.cons (hfr.at 2 rfl) (FR.nil _))))))
       replace hev := hev.then he25 (fun b hb => .inr (hPf b hb))
       replace hfr := hfr2
       clear hfr2
       replace hf8_1 := hp25_0
       replace hf25_1 := OwnS.plain (M' := fl [blk a0_25, blk a2_25, [b20], [b5], [b0_8], M]) (plain_int _) hf25_1
       replace hf25_2 := OwnS.plain (M' := fl [blk a0_25, blk a2_25, [b20], [b5], [b0_8], M]) (plain_int _) hf25_2
       clear hpk hsb hsb0 hpk2 hsb2 hst0 hsn hst
       have hpk : MS w25 [blk a2_25, [b20], [b5], [b0_8], M] := hms.pick [some 1, some 2, some 3, some 4, some 5] _ rfl
       have hsu : ∀ x ∈ fl [blk a2_25, [b20], [b5], [b0_8], M], x ∈ fl [blk a0_25, blk a2_25, [b20], [b5], [b0_8], M] := pick_sub [some 1, some 2, some 3, some 4, some 5] _ rfl
       replace hs_p2 := hs_p2.sub hsu
       replace hs_p1_0_1 := hs_p1_0_1.sub hsu
       replace hs_p1_1 := hs_p1_1.sub hsu
       replace hf8_2 := hf8_2.sub hsu
       replace hf17_1 := hf17_1.sub hsu
       replace hf17_2 := hf17_2.sub hsu
       replace hf25_1 := hf25_1.ro hsu (pick_out hms 0 rfl [some 1, some 2, some 3, some 4, some 5] [blk a2_25, [b20], [b5], [b0_8], M] rfl rfl)
       replace hf25_2 := hf25_2.sub hsu
       replace hms := hpk
       replace hfr : FR w.heap.size [blk a2_25, [b20], [b5], [b0_8]] := hfr.pick [some 1, some 2, some 3, some 4] _ rfl
       clear hpk hsu
       have hpk : MS w25 [[b20], [b5], [b0_8], M] := hms.pick [some 1, some 2, some 3, some 4] _ rfl
       have hsu : ∀ x ∈ fl [[b20], [b5], [b0_8], M], x ∈ fl [blk a2_25, [b20], [b5], [b0_8], M] := pick_sub [some 1, some 2, some 3, some 4] _ rfl
       replace hs_p2 := hs_p2.sub hsu
       replace hs_p1_0_1 := hs_p1_0_1.sub hsu
       replace hs_p1_1 := hs_p1_1.sub hsu
       replace hf8_2 := hf8_2.sub hsu
       replace hf17_1 := hf17_1.sub hsu
       replace hf17_2 := hf17_2.sub hsu
       replace hf25_1 := hf25_1.sub hsu
       replace hf25_2 := hf25_2.ro hsu (pick_out hms 0 rfl [some 1, some 2, some 3, some 4] [[b20], [b5], [b0_8], M] rfl rfl)
       replace hms := hpk
       replace hfr : FR w.heap.size [[b20], [b5], [b0_8]] := hfr.pick [some 1, some 2, some 3] _ rfl
       clear hpk hsu
       obtain ⟨x28, hx, h⟩ := bind_some h
       have hpk : MS w25 ([[b0_8]] ++ [[b20], [b5], M]) := hms.pick [some 2, some 0, some 1, some 3] _ rfl
       have hsb0 : ∀ x ∈ fl ([[b0_8]] ++ [[b20], [b5], M]), x ∈ fl [[b20], [b5], [b0_8], M] := pick_sub [some 2, some 0, some 1, some 3] _ rfl
       have hsb : ∀ x ∈ fl ([[b0_8]] ++ [(fl [[b20], [b5], M])]), x ∈ fl [[b20], [b5], [b0_8], M] := fun x hx => hsb0 x (fl_unfold x hx)
       have hcall := law15_spoil_w b0_8 a1_8 c1_8 x7.1 x24.2 x24.1.1.1 a0_25 c0_25 x24.1.1.2 a2_25 c2_25 x24.1.2 _ w25 (fl [[b20], [b5], M]) (hpk.fold (P := [[b0_8]])) (hf8_2.sub hsb) hf8_1 (hf25_1.sub hsb) (hf25_2.sub hsb) hx
       refine x_call 13 #[] #[] [Vp b0_8 0, .agg #[Vi x24.1.1.1, Vl a0_25 x24.1.1.2 c0_25, Vl a2_25 x24.1.2 c2_25]] _ rfl rfl rfl rfl hcall ?_
       rintro v w29 ⟨a0_29, c0_29, a2_29, c2_29, rfl, he29, hp29_0, hmn29, hfn29, hf29_1, hf29_2⟩
       clear hcall hx
       refine inl1 ?_
       have hpk2 : MS w25 ([[b0_8]] ++ [[b20], [b5], M]) := hms.pick [some 2, some 0, some 1, some 3] _ rfl
       have hsb2 : ∀ x ∈ fl ([[b0_8]] ++ [[b20], [b5], M]), x ∈ fl [[b20], [b5], [b0_8], M] := pick_sub [some 2, some 0, some 1, some 3] _ rfl
       have hst0 := Stp.call (LS := [[b20], [b5], [b0_8], M]) (res := [blk a0_29, blk a2_29]) (par := [[b0_8]]) (R := [[b20], [b5], M]) he29 (fun b hb => hsb2 b (fl_left' (P := [[b0_8]]) b hb)) hfn29 (NP.init _ _) (fun x hx => hsb2 x (fl_right' (P := [[b0_8]]) x hx))
       have hsn : ∀ x ∈ fl [blk a0_29, blk a2_29, [b20], [b5], [b0_8], M], x ∈ fl ([blk a0_29, blk a2_29] ++ ([[b0_8]] ++ [[b20], [b5], M])) := pick_sub [some 0, some 1, some 3, some 4, some 2, some 5] _ rfl
       have hst := hst0.res hsn
       replace hs_p2 := hs_p2.step hst
       replace hb5 := he29.box hb5 ((MS.outs (P := [[b0_8]]) hpk2 1 rfl) _ mem1)
       replace hs_p1_0_1 := hs_p1_0_1.step hst
       replace hs_p1_1 := hs_p1_1.step hst
       replace hf8_2 := hf8_2.step hst
       replace hf17_1 := hf17_1.step hst
       replace hf17_2 := hf17_2.step hst
       replace hb20 := he29.box hb20 ((MS.outs (P := [[b0_8]]) hpk2 0 rfl) _ mem1)
       replace hf25_1 := hf25_1.step hst
       replace hf25_2 := hf25_2.step hst
       replace hms : MS w29 [blk a0_29, blk a2_29, [b20], [b5], [b0_8], M] := (MS.call (P := [[b0_8]]) (R := [[b20], [b5], M]) (res := [blk a0_29, blk a2_29]) (par := [[b0_8]]) hpk2 he29 hmn29 hfn29 (NP.init _ _)).pick [some 0, some 1, some 3, some 4, some 2, some 5] _ rfl
       have hPf : ∀ b ∈ fl [[b0_8]], w.heap.size ≤ b := FR.mem (ls := [[b0_8]]) (hfr.pick [some 2] _ rfl)
       have hfr2 : FR w.heap.size [blk a0_29, blk a2_29, [b20], [b5], [b0_8]] := (FR.cons (fun b hb => Nat.le_trans hev.size (hfn29.at 0 rfl b hb)) (FR.cons (fun b hb => Nat.le_trans hev.size (hfn29.at 1 rfl b hb)) (FR.cons (hfr.at 0 rfl) (FR.cons (hfr.at 1 rfl) (FR.cons (hfr.at 2 rfl) (FR.nil _))))))
       replace hev := hev.then he29 (fun b hb => .inr (hPf b hb))
       replace hfr := hfr2
       clear hfr2
       replace hf8_1 := hp29_0
       replace hf29_1 := OwnS.plain (M' := fl [blk a0_29, blk a2_29, [b20], [b5], [b0_8], M]) (plain_int _) hf29_1
       replace hf29_2 := OwnS.plain (M' := fl [blk a0_29, blk a2_29, [b20], [b5], [b0_8], M]) (plain_int _) hf29_2
       clear hpk hsb hsb0 hpk2 hsb2 hst0 hsn hst
       have hpk : MS w29 [blk a2_29, [b20], [b5], [b0_8], M] := hms.pick [some 1, some 2, some 3, some 4, some 5] _ rfl
       have hsu : ∀ x ∈ fl [blk a2_29, [b20], [b5], [b0_8], M], x ∈ fl [blk a0_29, blk a2_29, [b20], [b5], [b0_8], M] := pick_sub [some 1, some 2, some 3, some 4, some 5] _ rfl
       replace hs_p2 := hs_p2.sub hsu
       replace hs_p1_0_1 := hs_p1_0_1.sub hsu
       replace hs_p1_1 := hs_p1_1.sub hsu
       replace hf8_2 := hf8_2.sub hsu
       replace hf17_1 := hf17_1.sub hsu
       replace hf17_2 := hf17_2.sub hsu
       replace hf25_1 := hf25_1.sub hsu
       replace hf25_2 := hf25_2.sub hsu
       replace hf29_1 := hf29_1.ro hsu (pick_out hms 0 rfl [some 1, some 2, some 3, some 4, some 5] [blk a2_29, [b20], [b5], [b0_8], M] rfl rfl)
       replace hf29_2 := hf29_2.sub hsu
       replace hms := hpk
       replace hfr : FR w.heap.size [blk a2_29, [b20], [b5], [b0_8]] := hfr.pick [some 1, some 2, some 3, some 4] _ rfl
       clear hpk hsu
       have hpk : MS w29 [[b20], [b5], [b0_8], M] := hms.pick [some 1, some 2, some 3, some 4] _ rfl
       have hsu : ∀ x ∈ fl [[b20], [b5], [b0_8], M], x ∈ fl [blk a2_29, [b20], [b5], [b0_8], M] := pick_sub [some 1, some 2, some 3, some 4] _ rfl
       replace hs_p2 := hs_p2.sub hsu
       replace hs_p1_0_1 := hs_p1_0_1.sub hsu
       replace hs_p1_1 := hs_p1_1.sub hsu
       replace hf8_2 := hf8_2.sub hsu
       replace hf17_1 := hf17_1.sub hsu
       replace hf17_2 := hf17_2.sub hsu
       replace hf25_1 := hf25_1.sub hsu
       replace hf25_2 := hf25_2.sub hsu
       replace hf29_1 := hf29_1.sub hsu
       replace hf29_2 := hf29_2.ro hsu (pick_out hms 0 rfl [some 1, some 2, some 3, some 4] [[b20], [b5], [b0_8], M] rfl rfl)
       replace hms := hpk
       replace hfr : FR w.heap.size [[b20], [b5], [b0_8]] := hfr.pick [some 1, some 2, some 3] _ rfl
       clear hpk hsu
       obtain ⟨w32, hr32, hb32, he32⟩ := store_boxagg 0 [Vi x28.1.1.1, Vl a0_29 x28.1.1.2 c0_29, Vl a2_29 x28.1.2 c2_29] #[Vi x28.1.1.1, Vl a0_29 x28.1.1.2 c0_29, Vl a2_29 x28.1.2 c2_29] tagg29 hb20 rfl rfl rfl
       refine x_store w32 (xv := Vp b20 0) (yv := .agg #[Vi x28.1.1.1, Vl a0_29 x28.1.1.2 c0_29, Vl a2_29 x28.1.2 c2_29]) rfl rfl rfl rfl hr32 ?_
       refine inl1 ?_
       have hst := Stp.ev' (ls := [[b20], [b5], [b0_8], M]) he32 (mem_flat 0 rfl)
       replace hs_p2 := hs_p2.step hst
       replace hb5 := he32.box hb5 (hms.apart 1 0 rfl rfl rfl _ mem1)
       replace hs_p1_0_1 := hs_p1_0_1.step hst
       replace hs_p1_1 := hs_p1_1.step hst
       replace hf8_1 := he32.box hf8_1 (hms.apart 2 0 rfl rfl rfl _ mem1)
       replace hf8_2 := hf8_2.step hst
       replace hf17_1 := hf17_1.step hst
       replace hf17_2 := hf17_2.step hst
       replace hf25_1 := hf25_1.step hst
       replace hf25_2 := hf25_2.step hst
       replace hf29_1 := hf29_1.step hst
       replace hf29_2 := hf29_2.step hst
       replace hms := hms.ev he32
       replace hev := hev.then he32 (fun b hb => .inr (hfr.at 0 rfl b hb))
       replace hb20 := hb32
       refine x_end rfl ?_
       refine k_block ?_
       have hpk : MS w32 [[b5], [b0_8], [b20], M] := hms.pick [some 1, some 2, some 0, some 3] _ rfl
       have hsu : ∀ x ∈ fl [[b5], [b0_8], [b20], M], x ∈ fl [[b20], [b5], [b0_8], M] := pick_sub [some 1, some 2, some 0, some 3] _ rfl
       replace hs_p2 := hs_p2.sub hsu
       replace hs_p1_0_1 := hs_p1_0_1.sub hsu
       replace hs_p1_1 := hs_p1_1.sub hsu
       replace hf8_2 := hf8_2.sub hsu
       replace hf29_1 := hf29_1.sub hsu
       replace hf29_2 := hf29_2.sub hsu
       replace hms := hpk
       replace hfr : FR w.heap.size [[b5], [b0_8], [b20]] := hfr.pick [some 1, some 2, some 0] _ rfl
       clear hpk hsu
       exact k_then ⟨(x28.2, x28.1.1.1, x28.1.1.2, x28.1.2, a0_29, c0_29, a2_29, c2_29), ⟨rfl, rfl, rfl, rfl, rfl, trivial⟩, h, hev, hms, hfr, hs_p2, hs_p1_0_1, hs_p1_1, hb5, hf8_2, hf8_1, hf29_1, hf29_2, hb20⟩
     refine c_sp ?_
     refine x_u 2 [(46, .bool (i_s8_l11 == 2)), (45, .bool (i_s8_l11 == 2))] ?_
     refine x_ek ?_
     refine c_norm [(2, Vl a_p2 p2 c_p2), (4, Vp b5 0), (7, Vp b0_8 0), (8, Vi i_s8_l11), (9, Vp b20 0), (45, .bool (i_s8_l11 == 2))] ⟨rfl, rfl, rfl, rfl, rfl, rfl, trivial⟩ (fun J => ?_)
     refine c_if (i_s8_l11 == 2) rfl h (fun h => ?_) (fun h => ?_)
     · refine c_sp ?_
       refine x_fieldAddr (xv := Vp b5 0) (Vp b5 0) rfl rfl rfl (reads_field tfld29_0 _ _) ?_
       refine x_fieldAddr (xv := Vp b5 0) (Vp b5 1) rfl rfl rfl (reads_field tfld27_1 _ _) ?_
       refine x_load (xv := Vp b5 1) (Vl a_p1_0_1 p1_0_1 c_p1_0_1) rfl rfl rfl (reads_box tcell22 hb5 nn 1 _ rfl) ?_
       refine x_len (vs := [Vl a_p1_0_1 p1_0_1 c_p1_0_1]) (Vi ((p1_0_1).length : Int)) rfl rfl rfl (reads_len tsl22 _ _ _ _ _) ?_
       refine x_fieldAddr (xv := Vp b5 0) (Vp b5 2) rfl rfl rfl (reads_field tfld29_1 _ _) ?_
       refine x_load (xv := Vp b5 2) (Vl a_p1_1 p1_1 c_p1_1) rfl rfl rfl (reads_box tcell22 hb5 nn 2 _ rfl) ?_
       refine x_len (vs := [Vl a_p1_1 p1_1 c_p1_1]) (Vi ((p1_1).length : Int)) rfl rfl rfl (reads_len tsl22 _ _ _ _ _) ?_
       refine x_u 2 [(54, Vi (IntKind.i64.wrap (((p1_0_1).length : Int) + ((p1_1).length : Int)))), (55, .bool (decide ((IntKind.i64.wrap (((p1_0_1).length : Int) + ((p1_1).length : Int))) ≤ 200)))] ?_
       refine x_ek ?_
       refine c_if (decide ((IntKind.i64.wrap (((p1_0_1).length : Int) + ((p1_1).length : Int))) ≤ 200)) rfl h (fun h => ?_) (fun h => ?_)
       · refine c_plain ?_
         refine x_load (xv := Vp b5 0) (.agg #[Vi p1_0_0, Vl a_p1_0_1 p1_0_1 c_p1_0_1, Vl a_p1_1 p1_1 c_p1_1]) rfl rfl rfl (reads_boxagg 0 [Vi p1_0_0, Vl a_p1_0_1 p1_0_1 c_p1_0_1, Vl a_p1_1 p1_1 c_p1_1] tagg29 hb5 nn rfl) ?_
         obtain ⟨w33, hr33, hb33, he33⟩ := store_boxagg 0 [Vi p1_0_0, Vl a_p1_0_1 p1_0_1 c_p1_0_1, Vl a_p1_1 p1_1 c_p1_1] #[Vi p1_0_0, Vl a_p1_0_1 p1_0_1 c_p1_0_1, Vl a_p1_1 p1_1 c_p1_1] tagg29 hb20 rfl rfl rfl
         refine x_store w33 (xv := Vp b20 0) (yv := .agg #[Vi p1_0_0, Vl a_p1_0_1 p1_0_1 c_p1_0_1, Vl a_p1_1 p1_1 c_p1_1]) rfl rfl rfl rfl hr33 ?_
         refine inl1 ?_
         have hst := Stp.ev' (ls := [[b20], [b5], [b0_8], M]) he33 (mem_flat 0 rfl)
         replace hs_p2 := hs_p2.step hst
         replace hb5 := he33.box hb5 (hms.apart 1 0 rfl rfl rfl _ mem1)
         replace hs_p1_0_1 := hs_p1_0_1.step hst
         replace hs_p1_1 := hs_p1_1.step hst
         replace hf8_1 := he33.box hf8_1 (hms.apart 2 0 rfl rfl rfl _ mem1)
         replace hf8_2 := hf8_2.step hst
         replace hf17_1 := hf17_1.step hst
         replace hf17_2 := hf17_2.step hst
         replace hms := hms.ev he33
         replace hev := hev.then he33 (fun b hb => .inr (hfr.at 0 rfl b hb))
         replace hb20 := hb33
         refine x_end rfl ?_
         refine k_block ?_
         have hpk : MS w33 [[b5], [b0_8], [b20], M] := hms.pick [some 1, some 2, some 0, some 3] _ rfl
         have hsu : ∀ x ∈ fl [[b5], [b0_8], [b20], M], x ∈ fl [[b20], [b5], [b0_8], M] := pick_sub [some 1, some 2, some 0, some 3] _ rfl
         replace hs_p2 := hs_p2.sub hsu
         replace hs_p1_0_1 := hs_p1_0_1.sub hsu
         replace hs_p1_1 := hs_p1_1.sub hsu
         replace hf8_2 := hf8_2.sub hsu
         replace hms := hpk
         replace hfr : FR w.heap.size [[b5], [b0_8], [b20]] := hfr.pick [some 1, some 2, some 0] _ rfl
         clear hpk hsu
         exact k_then ⟨(x13.2, p1_0_0, p1_0_1, p1_1, a_p1_0_1, c_p1_0_1, a_p1_1, c_p1_1), ⟨rfl, rfl, rfl, rfl, rfl, trivial⟩, h, hev, hms, hfr, hs_p2, hs_p1_0_1, hs_p1_1, hb5, hf8_2, hf8_1, hs_p1_0_1, hs_p1_1, hb20⟩
       refine c_skip ?_
       refine k_block ?_
       have hpk : MS w22 [[b5], [b0_8], [b20], M] := hms.pick [some 1, some 2, some 0, some 3] _ rfl
       have hsu : ∀ x ∈ fl [[b5], [b0_8], [b20], M], x ∈ fl [[b20], [b5], [b0_8], M] := pick_sub [some 1, some 2, some 0, some 3] _ rfl
       replace hs_p2 := hs_p2.sub hsu
       replace hs_p1_0_1 := hs_p1_0_1.sub hsu
       replace hs_p1_1 := hs_p1_1.sub hsu
       replace hf8_2 := hf8_2.sub hsu
       replace hf17_1 := hf17_1.sub hsu
       replace hf17_2 := hf17_2.sub hsu
       replace hms := hpk
       replace hfr : FR w.heap.size [[b5], [b0_8], [b20]] := hfr.pick [some 1, some 2, some 0] _ rfl
       clear hpk hsu
       exact k_then ⟨(x13.2, x16.1.1.1, x16.1.1.2, x16.1.2, a0_17, c0_17, a2_17, c2_17), ⟨rfl, rfl, rfl, rfl, rfl, trivial⟩, h, hev, hms, hfr, hs_p2, hs_p1_0_1, hs_p1_1, hb5, hf8_2, hf8_1, hf17_1, hf17_2, hb20⟩
     refine c_skip ?_
     refine k_block ?_
     have hpk : MS w22 [[b5], [b0_8], [b20], M] := hms.pick [some 1, some 2, some 0, some 3] _ rfl
     have hsu : ∀ x ∈ fl [[b5], [b0_8], [b20], M], x ∈ fl [[b20], [b5], [b0_8], M] := pick_sub [some 1, some 2, some 0, some 3] _ rfl
     replace hs_p2 := hs_p2.sub hsu
     replace hs_p1_0_1 := hs_p1_0_1.sub hsu
     replace hs_p1_1 := hs_p1_1.sub hsu
     replace hf8_2 := hf8_2.sub hsu
     replace hf17_1 := hf17_1.sub hsu
     replace hf17_2 := hf17_2.sub hsu
     replace hms := hpk
     replace hfr : FR w.heap.size [[b5], [b0_8], [b20]] := hfr.pick [some 1, some 2, some 0] _ rfl
     clear hpk hsu
     exact k_then ⟨(x13.2, x16.1.1.1, x16.1.1.2, x16.1.2, a0_17, c0_17, a2_17, c2_17), ⟨rfl, rfl, rfl, rfl, rfl, trivial⟩, h, hev, hms, hfr, hs_p2, hs_p1_0_1, hs_p1_1, hb5, hf8_2, hf8_1, hf17_1, hf17_2, hb20⟩
   rintro ⟨e9_j23_1, e21_j23_0, d30_j23, d31_j23, a30_j23, c30_j23, a31_j23, c31_j23⟩ J wj23 ⟨h, hev, hms, hfr, hs_p2, hs_p1_0_1, hs_p1_1, hb5, hf8_2, hf8_1, hj30_j23, hj31_j23, hb20⟩
   refine c_sp ?_
   refine x_load (xv := Vp b20 0) (.agg #[Vi e21_j23_0, Vl a30_j23 d30_j23 c30_j23, Vl a31_j23 d31_j23 c31_j23]) rfl rfl rfl (reads_boxagg 0 [Vi e21_j23_0, Vl a30_j23 d30_j23 c30_j23, Vl a31_j23 d31_j23 c31_j23] tagg29 hb20 nn rfl) ?_
   obtain ⟨x34, hx, h⟩ := bind_some h
   have hpk : MS wj23 ([] ++ [[b5], [b0_8], [b20], M]) := hms.pick [some 0, some 1, some 2, some 3] _ rfl
   have hsb0 : ∀ x ∈ fl ([] ++ [[b5], [b0_8], [b20], M]), x ∈ fl [[b5], [b0_8], [b20], M] := pick_sub [some 0, some 1, some 2, some 3] _ rfl
   have hsb : ∀ x ∈ fl ([] ++ [(fl [[b5], [b0_8], [b20], M])]), x ∈ fl [[b5], [b0_8], [b20], M] := fun x hx => hsb0 x (fl_unfold x hx)
   have hcall := certificate_Encode_w e21_j23_0 a30_j23 c30_j23 d30_j23 a31_j23 c31_j23 d31_j23 _ wj23 (fl [[b5], [b0_8], [b20], M]) (MS.fold (P := []) hpk) (hj30_j23.sub hsb) (hj31_j23.sub hsb) hx
   refine x_call 21 #[] #[] [.agg #[Vi e21_j23_0, Vl a30_j23 d30_j23 c30_j23, Vl a31_j23 d31_j23 c31_j23]] _ rfl rfl rfl rfl hcall ?_
   rintro v w35 ⟨a0_35, c0_35, rfl, he35, hmn35, hfn35, hf35_1⟩
   clear hcall hx
   refine inl1 ?_
   have hpk2 : MS wj23 ([] ++ [[b5], [b0_8], [b20], M]) := hms.pick [some 0, some 1, some 2, some 3] _ rfl
   have hsb2 : ∀ x ∈ fl ([] ++ [[b5], [b0_8], [b20], M]), x ∈ fl [[b5], [b0_8], [b20], M] := pick_sub [some 0, some 1, some 2, some 3] _ rfl
   have hst0 := Stp.call (LS := [[b5], [b0_8], [b20], M]) (res := [blk a0_35]) (par := []) (R := [[b5], [b0_8], [b20], M]) he35 (fun b hb => hsb2 b (fl_left' (P := []) b hb)) hfn35 (NP.init _ _) (fun x hx => hsb2 x (fl_right' (P := []) x hx))
   have hsn : ∀ x ∈ fl [blk a0_35, [b5], [b0_8], [b20], M], x ∈ fl ([blk a0_35] ++ ([] ++ [[b5], [b0_8], [b20], M])) := pick_sub [some 0, some 1, some 2, some 3, some 4] _ rfl
   have hst := hst0.res hsn
   replace hs_p2 := hs_p2.step hst
   replace hb5 := he35.box hb5 ((MS.outs (P := []) hpk2 0 rfl) _ mem1)
   replace hs_p1_0_1 := hs_p1_0_1.step hst
   replace hs_p1_1 := hs_p1_1.step hst
   replace hf8_1 := he35.box hf8_1 ((MS.outs (P := []) hpk2 1 rfl) _ mem1)
   replace hf8_2 := hf8_2.step hst
   replace hb20 := he35.box hb20 ((MS.outs (P := []) hpk2 2 rfl) _ mem1)
   replace hj30_j23 := hj30_j23.step hst
   replace hj31_j23 := hj31_j23.step hst
   replace hms : MS w35 [blk a0_35, [b5], [b0_8], [b20], M] := (MS.call (P := []) (R := [[b5], [b0_8], [b20], M]) (res := [blk a0_35]) (par := []) hpk2 he35 hmn35 hfn35 (NP.init _ _)).pick [some 0, some 1, some 2, some 3, some 4] _ rfl
   have hfr2 : FR w.heap.size [blk a0_35, [b5], [b0_8], [b20]] := (FR.cons (fun b hb => Nat.le_trans hev.size (hfn35.at 0 rfl b hb)) (FR.cons (hfr.at 0 rfl) (FR.cons (hfr.at 1 rfl) (FR.cons (hfr.at 2 rfl) (FR.nil _)))))
   replace hev := hev.ext he35
   replace hfr := hfr2
   clear hfr2
   replace hf35_1 := OwnS.plain (M' := fl [blk a0_35, [b5], [b0_8], [b20], M]) (plain_int _) hf35_1
   clear hpk hsb hsb0 hpk2 hsb2 hst0 hsn hst
   have hpk : MS w35 [[b5], [b0_8], [b20], M] := hms.pick [some 1, some 2, some 3, some 4] _ rfl
   have hsu : ∀ x ∈ fl [[b5], [b0_8], [b20], M], x ∈ fl [blk a0_35, [b5], [b0_8], [b20], M] := pick_sub [some 1, some 2, some 3, some 4] _ rfl
   replace hs_p2 := hs_p2.sub hsu
   replace hs_p1_0_1 := hs_p1_0_1.sub hsu
   replace hs_p1_1 := hs_p1_1.sub hsu
   replace hf8_2 := hf8_2.sub hsu
   replace hj30_j23 := hj30_j23.sub hsu
   replace hj31_j23 := hj31_j23.sub hsu
   replace hf35_1 := hf35_1.ro hsu (pick_out hms 0 rfl [some 1, some 2, some 3, some 4] [[b5], [b0_8], [b20], M] rfl rfl)
   replace hms := hpk
   replace hfr : FR w.heap.size [[b5], [b0_8], [b20]] := hfr.pick [some 1, some 2, some 3] _ rfl
   clear hpk hsu
   refine x_u 5 [(57, .tuple #[Vl a0_35 x34.1 c0_35, Vi x34.2]), (60, Vl a0_35 x34.1 c0_35), (61, Vi x34.2), (11, Vl a0_35 x34.1 c0_35), (12, Vi x34.2)] ?_
   refine x_ek ?_
   refine c_norm [(2, Vl a_p2 p2 c_p2), (4, Vp b5 0), (7, Vp b0_8 0), (8, Vi i_s8_l11), (9, Vp b20 0), (11, Vl a0_35 x34.1 c0_35), (12, Vi x34.2)] ⟨rfl, rfl, rfl, rfl, rfl, rfl, rfl, trivial⟩ (fun J => ?_)
   refine c_sp ?_
   refine x_load (xv := Vp b20 0) (.agg #[Vi e21_j23_0, Vl a30_j23 d30_j23 c30_j23, Vl a31_j23 d31_j23 c31_j23]) rfl rfl rfl (reads_boxagg 0 [Vi e21_j23_0, Vl a30_j23 d30_j23 c30_j23, Vl a31_j23 d31_j23 c31_j23] tagg29 hb20 nn rfl) ?_
   obtain ⟨x37, hx, h⟩ := bind_some h
   have hpk : MS w35 ([] ++ [[b5], [b0_8], [b20], M]) := hms.pick [some 0, some 1, some 2, some 3] _ rfl
   have hsb0 : ∀ x ∈ fl ([] ++ [[b5], [b0_8], [b20], M]), x ∈ fl [[b5], [b0_8], [b20], M] := pick_sub [some 0, some 1, some 2, some 3] _ rfl
   have hsb : ∀ x ∈ fl ([] ++ [(fl [[b5], [b0_8], [b20], M])]), x ∈ fl [[b5], [b0_8], [b20], M] := fun x hx => hsb0 x (fl_unfold x hx)
   have hcall := r15_Encode_w e21_j23_0 a30_j23 c30_j23 d30_j23 a31_j23 c31_j23 d31_j23 _ w35 (fl [[b5], [b0_8], [b20], M]) (MS.fold (P := []) hpk) (hj30_j23.sub hsb) (hj31_j23.sub hsb) hx
   refine x_call 23 #[] #[] [.agg #[Vi e21_j23_0, Vl a30_j23 d30_j23 c30_j23, Vl a31_j23 d31_j23 c31_j23]] _ rfl rfl rfl rfl hcall ?_
   rintro v w38 ⟨a0_38, c0_38, rfl, he38, hmn38, hfn38, hf38_1⟩
   clear hcall hx
   refine inl1 ?_
   have hpk2 : MS w35 ([] ++ [[b5], [b0_8], [b20], M]) := hms.pick [some 0, some 1, some 2, some 3] _ rfl
   have hsb2 : ∀ x ∈ fl ([] ++ [[b5], [b0_8], [b20], M]), x ∈ fl [[b5], [b0_8], [b20], M] := pick_sub [some 0, some 1, some 2, some 3] _ rfl
   have hst0 := Stp.call (LS := [[b5], [b0_8], [b20], M]) (res := [blk a0_38]) (par := []) (R := [[b5], [b0_8], [b20], M]) he38 (fun b hb => hsb2 b (fl_left' (P := []) b hb)) hfn38 (NP.init _ _) (fun x hx => hsb2 x (fl_right' (P := []) x hx))
   have hsn : ∀ x ∈ fl [blk a0_38, [b5], [b0_8], [b20], M], x ∈ fl ([blk a0_38] ++ ([] ++ [[b5], [b0_8], [b20], M])) := pick_sub [some 0, some 1, some 2, some 3, some 4] _ rfl
   have hst := hst0.res hsn
   replace hs_p2 := hs_p2.step hst
   replace hb5 := he38.box hb5 ((MS.outs (P := []) hpk2 0 rfl) _ mem1)
   replace hs_p1_0_1 := hs_p1_0_1.step hst
   replace hs_p1_1 := hs_p1_1.step hst
   replace hf8_1 := he38.box hf8_1 ((MS.outs (P := []) hpk2 1 rfl) _ mem1)
   replace hf8_2 := hf8_2.step hst
   replace hb20 := he38.box hb20 ((MS.outs (P := []) hpk2 2 rfl) _ mem1)
   replace hj30_j23 := hj30_j23.step hst
   replace hj31_j23 := hj31_j23.step hst
   replace hf35_1 := hf35_1.step hst
   replace hms : MS w38 [blk a0_38, [b5], [b0_8], [b20], M] := (MS.call (P := []) (R := [[b5], [b0_8], [b20], M]) (res := [blk a0_38]) (par := []) hpk2 he38 hmn38 hfn38 (NP.init _ _)).pick [some 0, some 1, some 2, some 3, some 4] _ rfl
   have hfr2 : FR w.heap.size [blk a0_38, [b5], [b0_8], [b20]] := (FR.cons (fun b hb => Nat.le_trans hev.size (hfn38.at 0 rfl b hb)) (FR.cons (hfr.at 0 rfl) (FR.cons (hfr.at 1 rfl) (FR.cons (hfr.at 2 rfl) (FR.nil _)))))
   replace hev := hev.ext he38
   replace hfr := hfr2
   clear hfr2
   replace hf38_1 := OwnS.plain (M' := fl [blk a0_38, [b5], [b0_8], [b20], M]) (plain_int _) hf38_1
   clear hpk hsb hsb0 hpk2 hsb2 hst0 hsn hst
   have hpk : MS w38 [[b5], [b0_8], [b20], M] := hms.pick [some 1, some 2, some 3, some 4] _ rfl
   have hsu : ∀ x ∈ fl [[b5], [b0_8], [b20], M], x ∈ fl [blk a0_38, [b5], [b0_8], [b20], M] := pick_sub [some 1, some 2, some 3, some 4] _ rfl
   replace hs_p2 := hs_p2.sub hsu
   replace hs_p1_0_1 := hs_p1_0_1.sub hsu
   replace hs_p1_1 := hs_p1_1.sub hsu
   replace hf8_2 := hf8_2.sub hsu
   replace hj30_j23 := hj30_j23.sub hsu
   replace hj31_j23 := hj31_j23.sub hsu
   replace hf35_1 := hf35_1.sub hsu
   replace hf38_1 := hf38_1.ro hsu (pick_out hms 0 rfl [some 1, some 2, some 3, some 4] [[b5], [b0_8], [b20], M] rfl rfl)
   replace hms := hpk
   replace hfr : FR w.heap.size [[b5], [b0_8], [b20]] := hfr.pick [some 1, some 2, some 3] _ rfl
   clear hpk hsu
   refine x_u 5 [(62, .tuple #[Vl a0_38 x37.1 c0_38, Vi x37.2]), (65, Vl a0_38 x37.1 c0_38), (66, Vi x37.2), (13, Vl a0_38 x37.1 c0_38), (14, Vi x37.2)] ?_
   refine x_ek ?_
   refine c_seq ?_
   refine c_sp ?_
   refine x_u 2 [(67, Vl a0_35 x34.1 c0_35), (68, Vl a0_38 x37.1 c0_38)] ?_
   obtain ⟨x41, hx, h⟩ := bind_some h
   have hpk : MS w38 ([] ++ [[b5], [b0_8], [b20], M]) := hms.pick [some 0, some 1, some 2, some 3] _ rfl
   have hsb0 : ∀ x ∈ fl ([] ++ [[b5], [b0_8], [b20], M]), x ∈ fl [[b5], [b0_8], [b20], M] := pick_sub [some 0, some 1, some 2, some 3] _ rfl
   have hsb : ∀ x ∈ fl ([] ++ [(fl [[b5], [b0_8], [b20], M])]), x ∈ fl [[b5], [b0_8], [b20], M] := fun x hx => hsb0 x (fl_unfold x hx)
   have hcall := gen_Bytes_w a0_35 c0_35 x34.1 a0_38 c0_38 x37.1 _ w38 (fl [[b5], [b0_8], [b20], M]) (MS.fold (P := []) hpk) (hf35_1.sub hsb) (hf38_1.sub hsb) hx
   refine x_call 24 #[] #[] [Vl a0_35 x34.1 c0_35, Vl a0_38 x37.1 c0_38] _ rfl rfl rfl rfl hcall ?_
   rintro v w42 ⟨rfl, he42⟩
   clear hcall hx
   refine inl1 ?_
   have hst := Stp.ext (ls := [[b5], [b0_8], [b20], M]) he42
   replace hs_p2 := hs_p2.step hst
   replace hb5 := he42.box hb5 nn
   replace hs_p1_0_1 := hs_p1_0_1.step hst
   replace hs_p1_1 := hs_p1_1.step hst
   replace hf8_1 := he42.box hf8_1 nn
   replace hf8_2 := hf8_2.step hst
   replace hb20 := he42.box hb20 nn
   replace hj30_j23 := hj30_j23.step hst
   replace hj31_j23 := hj31_j23.step hst
   replace hf35_1 := hf35_1.step hst
   replace hf38_1 := hf38_1.step hst
   replace hms := hms.ev he42
   replace hev := hev.ext he42
   clear hpk hsb hsb0
   refine x_u 2 [(70, .bool (!x41)), (71, .bool (!x41))] ?_
   refine x_if 71 (!x41) rfl h (fun h => ?_) (fun h => ?_)
   · refine x_u 4 [(72, undef), (73, undef), (74, undef), (75, .bool true)] ?_
     refine x_ek ?_
     refine c_norm [(2, Vl a_p2 p2 c_p2), (4, Vp b5 0), (7, Vp b0_8 0), (8, Vi i_s8_l11), (9, Vp b20 0), (11, Vl a0_35 x34.1 c0_35), (12, Vi x34.2), (13, Vl a0_38 x37.1 c0_38), (75, .bool true)] ⟨rfl, rfl, rfl, rfl, rfl, rfl, rfl, rfl, rfl, trivial⟩ (fun J => ?_)
     refine c_true rfl ?_
     refine c_sp ?_
     refine x_u 1 [(6, .bool false)] ?_
     refine x_ek ?_
     refine c_ret ?_
     refine k_then_ret ?_
     refine k_block_ret ?_
     refine k_then_ret ?_
     have hx := some_inj h
     subst hx
     have hy := some_inj hn11
     subst hy
     replace h := h11
     refine k_then_ret ?_
     refine k_block_ret ?_
     refine k_then_ret ?_
     refine r_ret (r_vals [.bool false] ⟨rfl, trivial⟩ ?_)
     have hx := some_inj h
     subst hx
     have hmr : MS w42 [M] := hms.pick [some 3] _ rfl
     have hsu : ∀ x ∈ fl [M], x ∈ fl [[b5], [b0_8], [b20], M] := pick_sub [some 3] _ rfl
     exact ⟨rfl, hev⟩
   refine x_u 4 [(72, Vi x34.2), (73, Vi x37.2), (74, .bool (x34.2 != x37.2)), (75, .bool (x34.2 != x37.2))] ?_
   refine x_ek ?_
   refine c_norm [(2, Vl a_p2 p2 c_p2), (4, Vp b5 0), (7, Vp b0_8 0), (8, Vi i_s8_l11), (9, Vp b20 0), (11, Vl a0_35 x34.1 c0_35), (12, Vi x34.2), (13, Vl a0_38 x37.1 c0_38), (75, .bool (x34.2 != x37.2))] ⟨rfl, rfl, rfl, rfl, rfl, rfl, rfl, rfl, rfl, trivial⟩ (fun J => ?_)
   refine c_if (x34.2 != x37.2) rfl h (fun h => ?_) (fun h => ?_)
   · refine c_sp ?_
     refine x_u 1 [(6, .bool false)] ?_
     refine x_ek ?_
     refine c_ret ?_
     refine k_then_ret ?_
     refine k_block_ret ?_
     refine k_then_ret ?_
     have hx := some_inj h
     subst hx
     have hy := some_inj hn11
     subst hy
     replace h := h11
     refine k_then_ret ?_
     refine k_block_ret ?_
     refine k_then_ret ?_
     refine r_ret (r_vals [.bool false] ⟨rfl, trivial⟩ ?_)
     have hx := some_inj h
     subst hx
     have hmr : MS w42 [M] := hms.pick [some 3] _ rfl
     have hsu : ∀ x ∈ fl [M], x ∈ fl [[b5], [b0_8], [b20], M] := pick_sub [some 3] _ rfl
     exact ⟨rfl, hev⟩
   refine c_skip ?_
   refine k_then ?_
   refine c_join (σ := Unit) (fun s => match s with | _ => [(2, Vl a_p2 p2 c_p2), (4, Vp b5 0), (7, Vp b0_8 0), (8, Vi i_s8_l11), (13, Vl a0_38 x37.1 c0_38)]) (fun s w' => match s with | _ => law15_CertificateBytes_J43 p2 x7 i_s8_l11 e9_j23_1 x37 = some t11 ∧ Ev [] w w' ∧ MS w' [[b5], [b0_8], M] ∧ FR w.heap.size [[b5], [b0_8]] ∧ SlR (eInt .u8) w' (fl [[b5], [b0_8], M]) a_p2 c_p2 p2 ∧ SlR (eInt .i64) w' (fl [[b5], [b0_8], M]) a_p1_0_1 c_p1_0_1 p1_0_1 ∧ SlR (eInt .i64) w' (fl [[b5], [b0_8], M]) a_p1_1 c_p1_1 p1_1 ∧ w'.heap[b5]? = some (.cells #[Vi p1_0_0, Vl a_p1_0_1 p1_0_1 c_p1_0_1, Vl a_p1_1 p1_1 c_p1_1] 29 (0, 0)) ∧ SlR (eInt .i64) w' (fl [[b5], [b0_8], M]) a1_8 c1_8 x7.1 ∧ w'.heap[b0_8]? = some (.cells #[Vl a1_8 x7.1 c1_8, Vi e9_j23_1] 65 (0, 0)) ∧ SlR (eInt .u8) w' (fl [[b5], [b0_8], M]) a0_38 c0_38 x37.1) ?_ ?_
   · refine c_sp ?_
     refine x_u 2 [(76, Vi x34.2), (77, .bool (x34.2 == 0))] ?_
     refine x_ek ?_
     refine c_if (x34.2 == 0) rfl h (fun h => ?_) (fun h => ?_)
     · refine c_sp ?_
       refine x_u 1 [(79, Vl a0_35 x34.1 c0_35)] ?_
       obtain ⟨x44, hx, h⟩ := bind_some h
       have hpk : MS w42 ([] ++ [[b5], [b0_8], [b20], M]) := hms.pick [some 0, some 1, some 2, some 3] _ rfl
       have hsb0 : ∀ x ∈ fl ([] ++ [[b5], [b0_8], [b20], M]), x ∈ fl [[b5], [b0_8], [b20], M] := pick_sub [some 0, some 1, some 2, some 3] _ rfl
       have hsb : ∀ x ∈ fl ([] ++ [(fl [[b5], [b0_8], [b20], M])]), x ∈ fl [[b5], [b0_8], [b20], M] := fun x hx => hsb0 x (fl_unfold x hx)
       have hcall := certificate_Decode_w a0_35 c0_35 x34.1 _ w42 (fl [[b5], [b0_8], [b20], M]) (MS.fold (P := []) hpk) (hf35_1.sub hsb) hx
       refine x_call 22 #[] #[] [Vl a0_35 x34.1 c0_35] _ rfl rfl rfl rfl hcall ?_
       rintro v w45 ⟨a0_45, c0_45, a2_45, c2_45, rfl, he45, hmn45, hfn45, hf45_1, hf45_2⟩
       clear hcall hx
       refine inl1 ?_
       have hpk2 : MS w42 ([] ++ [[b5], [b0_8], [b20], M]) := hms.pick [some 0, some 1, some 2, some 3] _ rfl
       have hsb2 : ∀ x ∈ fl ([] ++ [[b5], [b0_8], [b20], M]), x ∈ fl [[b5], [b0_8], [b20], M] := pick_sub [some 0, some 1, some 2, some 3] _ rfl
       have hst0 := Stp.call (LS := [[b5], [b0_8], [b20], M]) (res := [blk a0_45, blk a2_45]) (par := []) (R := [[b5], [b0_8], [b20], M]) he45 (fun b hb => hsb2 b (fl_left' (P := []) b hb)) hfn45 (NP.init _ _) (fun x hx => hsb2 x (fl_right' (P := []) x hx))
       have hsn : ∀ x ∈ fl [blk a0_45, blk a2_45, [b5], [b0_8], [b20], M], x ∈ fl ([blk a0_45, blk a2_45] ++ ([] ++ [[b5], [b0_8], [b20], M])) := pick_sub [some 0, some 1, some 2, some 3, some 4, some 5] _ rfl
       have hst := hst0.res hsn
       replace hs_p2 := hs_p2.step hst
       replace hb5 := he45.box hb5 ((MS.outs (P := []) hpk2 0 rfl) _ mem1)
       replace hs_p1_0_1 := hs_p1_0_1.step hst
       replace hs_p1_1 := hs_p1_1.step hst
       replace hf8_1 := he45.box hf8_1 ((MS.outs (P := []) hpk2 1 rfl) _ mem1)
       replace hf8_2 := hf8_2.step hst
       replace hb20 := he45.box hb20 ((MS.outs (P := []) hpk2 2 rfl) _ mem1)
       replace hj30_j23 := hj30_j23.step hst
       replace hj31_j23 := hj31_j23.step hst
       replace hf35_1 := hf35_1.step hst
       replace hf38_1 := hf38_1.step hst
       replace hms : MS w45 [blk a0_45, blk a2_45, [b5], [b0_8], [b20], M] := (MS.call (P := []) (R := [[b5], [b0_8], [b20], M]) (res := [blk a0_45, blk a2_45]) (par := []) hpk2 he45 hmn45 hfn45 (NP.init _ _)).pick [some 0, some 1, some 2, some 3, some 4, some 5] _ rfl
       have hfr2 : FR w.heap.size [blk a0_45, blk a2_45, [b5], [b0_8], [b20]] := (FR.cons (fun b hb => Nat.le_trans hev.size (hfn45.at 0 rfl b hb)) (FR.cons (fun b hb => Nat.le_trans hev.size (hfn45.at 1 rfl b hb)) (FR.cons (hfr.at 0 rfl) (FR.cons (hfr.at 1 rfl) (FR.cons (hfr.at 2 rfl) (FR.nil _))))))
       replace hev := hev.ext he45
       replace hfr := hfr2
       clear hfr2
       replace hf45_1 := OwnS.plain (M' := fl [blk a0_45, blk a2_45, [b5], [b0_8], [b20], M]) (plain_int _) hf45_1
       replace hf45_2 := OwnS.plain (M' := fl [blk a0_45, blk a2_45, [b5], [b0_8], [b20], M]) (plain_int _) hf45_2
       clear hpk hsb hsb0 hpk2 hsb2 hst0 hsn hst
       have hpk : MS w45 [blk a2_45, [b5], [b0_8], [b20], M] := hms.pick [some 1, some 2, some 3, some 4, some 5] _ rfl
       have hsu : ∀ x ∈ fl [blk a2_45, [b5], [b0_8], [b20], M], x ∈ fl [blk a0_45, blk a2_45, [b5], [b0_8], [b20], M] := pick_sub [some 1, some 2, some 3, some 4, some 5] _ rfl
       replace hs_p2 := hs_p2.sub hsu
       replace hs_p1_0_1 := hs_p1_0_1.sub hsu
       replace hs_p1_1 := hs_p1_1.sub hsu
       replace hf8_2 := hf8_2.sub hsu
       replace hj30_j23 := hj30_j23.sub hsu
       replace hj31_j23 := hj31_j23.sub hsu
       replace hf35_1 := hf35_1.sub hsu
       replace hf38_1 := hf38_1.sub hsu
       replace hf45_1 := hf45_1.ro hsu (pick_out hms 0 rfl [some 1, some 2, some 3, some 4, some 5] [blk a2_45, [b5], [b0_8], [b20], M] rfl rfl)
       replace hf45_2 := hf45_2.sub hsu
       replace hms := hpk
       replace hfr : FR w.heap.size [blk a2_45, [b5], [b0_8], [b20]] := hfr.pick [some 1, some 2, some 3, some 4] _ rfl
       clear hpk hsu
       have hpk : MS w45 [[b5], [b0_8], [b20], M] := hms.pick [some 1, some 2, some 3, some 4] _ rfl
       have hsu : ∀ x ∈ fl [[b5], [b0_8], [b20], M], x ∈ fl [blk a2_45, [b5], [b0_8], [b20], M] := pick_sub [some 1, some 2, some 3, some 4] _ rfl
       replace hs_p2 := hs_p2.sub hsu
       replace hs_p1_0_1 := hs_p1_0_1.sub hsu
       replace hs_p1_1 := hs_p1_1.sub hsu
       replace hf8_2 := hf8_2.sub hsu
       replace hj30_j23 := hj30_j23.sub hsu
       replace hj31_j23 := hj31_j23.sub hsu
       replace hf35_1 := hf35_1.sub hsu
       replace hf38_1 := hf38_1.sub hsu
       replace hf45_1 := hf45_1.sub hsu
       replace hf45_2 := hf45_2.ro hsu (pick_out hms 0 rfl [some 1, some 2, some 3, some 4] [[b5], [b0_8], [b20], M] rfl rfl)
       replace hms := hpk
       replace hfr : FR w.heap.size [[b5], [b0_8], [b20]] := hfr.pick [some 1, some 2, some 3] _ rfl
       clear hpk hsu
       refine x_u 3 [(78, .tuple #[.agg #[Vi x44.1.1.1, Vl a0_45 x44.1.1.2 c0_45, Vl a2_45 x44.1.2 c2_45], Vi x44.2]), (81, .agg #[Vi x44.1.1.1, Vl a0_45 x44.1.1.2 c0_45, Vl a2_45 x44.1.2 c2_45]), (82, Vi x44.2)] ?_
       refine x_alloc (z := .agg #[Vi 0, .slice none 0 0, .slice none 0 0]) rfl rfl (by kernel_rfl) (fun b48 w48 hq48 hb48 he48 hz48 => ?_)
       replace hb48 : w48.heap[b48]? = some (.cells #[Vi 0, .slice none 0 0, .slice none 0 0] 29 (0, 0)) := hb48
       refine inl1 ?_
       have hst := Stp.box (ls := [[b5], [b0_8], [b20], M]) he48 hq48
       replace hs_p2 := hs_p2.step hst
       replace hb5 := he48.box hb5 nn
       replace hs_p1_0_1 := hs_p1_0_1.step hst
       replace hs_p1_1 := hs_p1_1.step hst
       replace hf8_1 := he48.box hf8_1 nn
       replace hf8_2 := hf8_2.step hst
       replace hb20 := he48.box hb20 nn
       replace hj30_j23 := hj30_j23.step hst
       replace hj31_j23 := hj31_j23.step hst
       replace hf35_1 := hf35_1.step hst
       replace hf38_1 := hf38_1.step hst
       replace hf45_1 := hf45_1.step hst
       replace hf45_2 := hf45_2.step hst
       replace hms := hms.box he48 hq48 hb48
       replace hfr := hfr.box hev.size hq48
       replace hev := hev.ext he48
       obtain ⟨w50, hr50, hb50, he50⟩ := store_boxagg 0 [Vi x44.1.1.1, Vl a0_45 x44.1.1.2 c0_45, Vl a2_45 x44.1.2 c2_45] #[Vi x44.1.1.1, Vl a0_45 x44.1.1.2 c0_45, Vl a2_45 x44.1.2 c2_45] tagg29 hb48 rfl rfl rfl
       refine x_store w50 (xv := Vp b48 0) (yv := .agg #[Vi x44.1.1.1, Vl a0_45 x44.1.1.2 c0_45, Vl a2_45 x44.1.2 c2_45]) rfl rfl rfl rfl hr50 ?_
       refine inl1 ?_
       have hst := Stp.ev' (ls := [[b48], [b5], [b0_8], [b20], M]) he50 (mem_flat 0 rfl)
       replace hs_p2 := hs_p2.step hst
       replace hb5 := he50.box hb5 (hms.apart 1 0 rfl rfl rfl _ mem1)
       replace hs_p1_0_1 := hs_p1_0_1.step hst
       replace hs_p1_1 := hs_p1_1.step hst
       replace hf8_1 := he50.box hf8_1 (hms.apart 2 0 rfl rfl rfl _ mem1)
       replace hf8_2 := hf8_2.step hst
       replace hb20 := he50.box hb20 (hms.apart 3 0 rfl rfl rfl _ mem1)
       replace hj30_j23 := hj30_j23.step hst
       replace hj31_j23 := hj31_j23.step hst
       replace hf35_1 := hf35_1.step hst
       replace hf38_1 := hf38_1.step hst
       replace hf45_1 := hf45_1.step hst
       replace hf45_2 := hf45_2.step hst
       replace hms := hms.ev he50
       replace hev := hev.then he50 (fun b hb => .inr (hfr.at 0 rfl b hb))
       replace hb48 := hb50
       refine x_u 1 [(16, Vi x44.2)] ?_
       refine x_ek ?_
       refine c_sp ?_
       refine x_u 3 [(83, Vi x44.2), (84, .bool (x44.2 != 0)), (85, .bool (x44.2 != 0))] ?_
       refine x_if 85 (x44.2 != 0) rfl h (fun h => ?_) (fun h => ?_)
       · refine x_u 5 [(86, undef), (87, undef), (88, undef), (89, undef), (90, .bool true)] ?_
         refine x_ek ?_
         refine c_norm [(2, Vl a_p2 p2 c_p2), (4, Vp b5 0), (7, Vp b0_8 0), (8, Vi i_s8_l11), (13, Vl a0_38 x37.1 c0_38), (90, .bool true)] ⟨rfl, rfl, rfl, rfl, rfl, rfl, trivial⟩ (fun J => ?_)
         refine c_true rfl ?_
         refine c_sp ?_
         refine x_u 1 [(6, .bool false)] ?_
         refine x_ek ?_
         refine c_ret ?_
         refine k_then_ret ?_
         refine k_block_ret ?_
         refine k_then_ret ?_
         have hx := some_inj h
         subst hx
         have hy := some_inj hn11
         subst hy
         replace h := h11
         refine k_then_ret ?_
         refine k_block_ret ?_
         refine k_then_ret ?_
         refine r_ret (r_vals [.bool false] ⟨rfl, trivial⟩ ?_)
         have hx := some_inj h
         subst hx
         have hmr : MS w50 [M] := hms.pick [some 4] _ rfl
         have hsu : ∀ x ∈ fl [M], x ∈ fl [[b48], [b5], [b0_8], [b20], M] := pick_sub [some 4] _ rfl
         exact ⟨rfl, hev⟩
       refine x_load (xv := Vp b48 0) (.agg #[Vi x44.1.1.1, Vl a0_45 x44.1.1.2 c0_45, Vl a2_45 x44.1.2 c2_45]) rfl rfl rfl (reads_boxagg 0 [Vi x44.1.1.1, Vl a0_45 x44.1.1.2 c0_45, Vl a2_45 x44.1.2 c2_45] tagg29 hb48 nn rfl) ?_
       refine x_load (xv := Vp b20 0) (.agg #[Vi e21_j23_0, Vl a30_j23 d30_j23 c30_j23, Vl a31_j23 d31_j23 c31_j23]) rfl rfl rfl (reads_boxagg 0 [Vi e21_j23_0, Vl a30_j23 d30_j23 c30_j23, Vl a31_j23 d31_j23 c31_j23] tagg29 hb20 nn rfl) ?_
       obtain ⟨x51, hx, h⟩ := bind_some h
       have hpk : MS w50 ([] ++ [[b48], [b5], [b0_8], [b20], M]) := hms.pick [some 0, some 1, some 2, some 3, some 4] _ rfl
       have hsb0 : ∀ x ∈ fl ([] ++ [[b48], [b5], [b0_8], [b20], M]), x ∈ fl [[b48], [b5], [b0_8], [b20], M] := pick_sub [some 0, some 1, some 2, some 3, some 4] _ rfl
       have hsb : ∀ x ∈ fl ([] ++ [(fl [[b48], [b5], [b0_8], [b20], M])]), x ∈ fl [[b48], [b5], [b0_8], [b20], M] := fun x hx => hsb0 x (fl_unfold x hx)
       have hcall := gen_Proofs_w x44.1.1.1 a0_45 c0_45 x44.1.1.2 a2_45 c2_45 x44.1.2 e21_j23_0 a30_j23 c30_j23 d30_j23 a31_j23 c31_j23 d31_j23 _ w50 (fl [[b48], [b5], [b0_8], [b20], M]) (MS.fold (P := []) hpk) (hf45_1.sub hsb) (hf45_2.sub hsb) (hj30_j23.sub hsb) (hj31_j23.sub hsb) hx
       refine x_call 12 #[] #[] [.agg #[Vi x44.1.1.1, Vl a0_45 x44.1.1.2 c0_45, Vl a2_45 x44.1.2 c2_45], .agg #[Vi e21_j23_0, Vl a30_j23 d30_j23 c30_j23, Vl a31_j23 d31_j23 c31_j23]] _ rfl rfl rfl rfl hcall ?_
       rintro v w52 ⟨rfl, he52⟩
       clear hcall hx
       refine inl1 ?_
       have hst := Stp.ext (ls := [[b48], [b5], [b0_8], [b20], M]) he52
       replace hs_p2 := hs_p2.step hst
       replace hb5 := he52.box hb5 nn
       replace hs_p1_0_1 := hs_p1_0_1.step hst
       replace hs_p1_1 := hs_p1_1.step hst
       replace hf8_1 := he52.box hf8_1 nn
       replace hf8_2 := hf8_2.step hst
       replace hb20 := he52.box hb20 nn
       replace hj30_j23 := hj30_j23.step hst
       replace hj31_j23 := hj31_j23.step hst
       replace hf38_1 := hf38_1.step hst
       replace hf45_1 := hf45_1.step hst
       replace hf45_2 := hf45_2.step hst
       replace hb48 := he52.box hb48 nn
       replace hms := hms.ev he52
       replace hev := hev.ext he52
       clear hpk hsb hsb0
       refine x_u 2 [(89, .bool (!x51)), (90, .bool (!x51))] ?_
       refine x_ek ?_
       refine c_norm [(2, Vl a_p2 p2 c_p2), (4, Vp b5 0), (7, Vp b0_8 0), (8, Vi i_s8_l11), (13, Vl a0_38 x37.1 c0_38), (90, .bool (!x51))] ⟨rfl, rfl, rfl, rfl, rfl, rfl, trivial⟩ (fun J => ?_)
       refine c_if (!x51) rfl h (fun h => ?_) (fun h => ?_)
       · refine c_sp ?_
         refine x_u 1 [(6, .bool false)] ?_
         refine x_ek ?_
         refine c_ret ?_
         refine k_then_ret ?_
         refine k_block_ret ?_
         refine k_then_ret ?_
         have hx := some_inj h
         subst hx
         have hy := some_inj hn11
         subst hy
         replace h := h11
         refine k_then_ret ?_
         refine k_block_ret ?_
         refine k_then_ret ?_
         refine r_ret (r_vals [.bool false] ⟨rfl, trivial⟩ ?_)
         have hx := some_inj h
         subst hx
         have hmr : MS w52 [M] := hms.pick [some 4] _ rfl
         have hsu : ∀ x ∈ fl [M], x ∈ fl [[b48], [b5], [b0_8], [b20], M] := pick_sub [some 4] _ rfl
         exact ⟨rfl, hev⟩
       refine c_skip ?_
       have hpk : MS w52 [[b5], [b0_8], M] := hms.pick [some 1, some 2, some 4] _ rfl
       have hsu : ∀ x ∈ fl [[b5], [b0_8], M], x ∈ fl [[b48], [b5], [b0_8], [b20], M] := pick_sub [some 1, some 2, some 4] _ rfl
       replace hs_p2 := hs_p2.sub hsu
       replace hs_p1_0_1 := hs_p1_0_1.sub hsu
       replace hs_p1_1 := hs_p1_1.sub hsu
       replace hf8_2 := hf8_2.sub hsu
       replace hf38_1 := hf38_1.sub hsu
       replace hms := hpk
       replace hfr : FR w.heap.size [[b5], [b0_8]] := hfr.pick [some 1, some 2] _ rfl
       clear hpk hsu
       exact k_then ⟨(), ⟨rfl, rfl, rfl, rfl, rfl, trivial⟩, h, hev, hms, hfr, hs_p2, hs_p1_0_1, hs_p1_1, hb5, hf8_2, hf8_1, hf38_1⟩
     refine c_skip ?_
     have hpk : MS w42 [[b5], [b0_8], M] := hms.pick [some 0, some 1, some 3] _ rfl
     have hsu : ∀ x ∈ fl [[b5], [b0_8], M], x ∈ fl [[b5], [b0_8], [b20], M] := pick_sub [some 0, some 1, some 3] _ rfl
     replace hs_p2 := hs_p2.sub hsu
     replace hs_p1_0_1 := hs_p1_0_1.sub hsu
     replace hs_p1_1 := hs_p1_1.sub hsu
     replace hf8_2 := hf8_2.sub hsu
     replace hf38_1 := hf38_1.sub hsu
     replace hms := hpk
     replace hfr : FR w.heap.size [[b5], [b0_8]] := hfr.pick [some 0, some 1] _ rfl
     clear hpk hsu
     exact k_then ⟨(), ⟨rfl, rfl, rfl, rfl, rfl, trivial⟩, h, hev, hms, hfr, hs_p2, hs_p1_0_1, hs_p1_1, hb5, hf8_2, hf8_1, hf38_1⟩
   rintro _ J wj43 ⟨h, hev, hms, hfr, hs_p2, hs_p1_0_1, hs_p1_1, hb5, hf8_2, hf8_1, hf38_1⟩
   refine c_sp ?_
   refine x_u 4 [(91, Vl a_p2 p2 c_p2), (92, Vl a0_38 x37.1 c0_38), (93, Vp b0_8 0), (94, Vl a0_38 x37.1 c0_38)] ?_
   obtain ⟨x53, hx, h⟩ := bind_some h
   have hpk : MS wj43 ([[b0_8]] ++ [[b5], M]) := hms.pick [some 1, some 0, some 2] _ rfl
   have hsb0 : ∀ x ∈ fl ([[b0_8]] ++ [[b5], M]), x ∈ fl [[b5], [b0_8], M] := pick_sub [some 1, some 0, some 2] _ rfl
   have hsb : ∀ x ∈ fl ([[b0_8]] ++ [(fl [[b5], M])]), x ∈ fl [[b5], [b0_8], M] := fun x hx => hsb0 x (fl_unfold x hx)
   have hcall := gen_Maker_SpoilBytes_w b0_8 a1_8 c1_8 x7.1 e9_j23_1 a0_38 c0_38 x37.1 _ wj43 (fl [[b5], M]) (hpk.fold (P := [[b0_8]])) (hf8_2.sub hsb) hf8_1 (hf38_1.sub hsb) hx
   refine x_call 25 #[] #[] [Vp b0_8 0, Vl a0_38 x37.1 c0_38] _ rfl rfl rfl rfl hcall ?_
   rintro v w54 ⟨a0_54, c0_54, rfl, he54, hp54_0, hf54_1⟩
   clear hcall hx
   refine inl1 ?_
   have hpk2 : MS wj43 ([[b0_8]] ++ [[b5], M]) := hms.pick [some 1, some 0, some 2] _ rfl
   have hsb2 : ∀ x ∈ fl ([[b0_8]] ++ [[b5], M]), x ∈ fl [[b5], [b0_8], M] := pick_sub [some 1, some 0, some 2] _ rfl
   have hst0 := Stp.call (LS := [[b5], [b0_8], M]) (res := []) (par := [[b0_8]]) (R := [[b5], M]) he54 (fun b hb => hsb2 b (fl_left' (P := [[b0_8]]) b hb)) (FR.nil _) (NP.init _ _) (fun x hx => hsb2 x (fl_right' (P := [[b0_8]]) x hx))
   have hsn : ∀ x ∈ fl [[b5], [b0_8], M], x ∈ fl ([] ++ ([[b0_8]] ++ [[b5], M])) := pick_sub [some 1, some 0, some 2] _ rfl
   have hst := hst0.res hsn
   replace hs_p2 := hs_p2.step hst
   replace hb5 := he54.box hb5 ((MS.outs (P := [[b0_8]]) hpk2 0 rfl) _ mem1)
   replace hs_p1_0_1 := hs_p1_0_1.step hst
   replace hs_p1_1 := hs_p1_1.step hst
   replace hf8_2 := hf8_2.step hst
   replace hf38_1 := hf38_1.step hst
   replace hms := hms.ev he54
   have hPf : ∀ b ∈ fl [[b0_8]], w.heap.size ≤ b := FR.mem (ls := [[b0_8]]) (hfr.pick [some 1] _ rfl)
   replace hev := hev.then he54 (fun b hb => .inr (hPf b hb))
   replace hf8_1 := hp54_0
   have hsp : ∀ x ∈ fl [[b5], [b0_8], M], x ∈ fl ([] ++ ([[b0_8]] ++ [(fl [[b5], M])])) := fun x hx => fl_tot (res := []) (par := [[b0_8]]) (R := [[b5], M]) x (hsn x hx)
   replace hf54_1 := hf54_1.sub hsp
   clear hpk hsb hsb0 hpk2 hsb2 hst0 hsn hst
   refine x_buildSlice (vs := [(0, Vl a_p2 p2 c_p2), (1, Vl a0_38 x37.1 c0_38), (2, Vl a0_54 x53.1 c0_54)]) #[Vl a_p2 p2 c_p2, Vl a0_38 x37.1 c0_38, Vl a0_54 x53.1 c0_54] 46 rfl rfl rfl (by kernel_rfl) (fun b56 w56 hq56 hb56 he56 hz56 => ?_)
   refine inl1 ?_
   have hms0 := hms
   have hst := Stp.ext (ls := [[b5], [b0_8], M]) he56
   replace hs_p2 := hs_p2.step hst
   replace hb5 := he56.box hb5 nn
   replace hs_p1_0_1 := hs_p1_0_1.step hst
   replace hs_p1_1 := hs_p1_1.step hst
   replace hf8_1 := he56.box hf8_1 nn
   replace hf8_2 := hf8_2.step hst
   replace hf38_1 := hf38_1.step hst
   replace hf54_1 := hf54_1.step hst
   replace hms := hms.ev he56
   replace hev := hev.ext he56
   have hs56 : SlR (eSl (eInt .u8)) w56 (fl [[b5], [b0_8], M]) (Ad b56 0) 3 ([p2, x37.1, x53.1] : List (List Int)) := ro_of_box hms0 hq56 hb56 rfl rfl (cells_at (cs := [Vl a_p2 p2 c_p2, Vl a0_38 x37.1 c0_38, Vl a0_54 x53.1 c0_54]) (CellsOf.cons (c := [Vl a_p2 p2 c_p2]) ⟨a_p2, c_p2, rfl, hs_p2⟩ (CellsOf.cons (c := [Vl a0_38 x37.1 c0_38]) ⟨a0_38, c0_38, rfl, hf38_1⟩ (CellsOf.cons (c := [Vl a0_54 x53.1 c0_54]) ⟨a0_54, c0_54, rfl, hf54_1⟩ CellsOf.nil))))
   clear hb56 hms0
   refine x_len (vs := [.slice (Ad b56 0) (([p2, x37.1, x53.1] : List (List Int))).length 3]) (Vi ((([p2, x37.1, x53.1] : List (List Int))).length : Int)) rfl rfl rfl (reads_len tsl53 _ _ _ _ _) ?_
   refine x_u 1 [(98, Vi 0)] ?_
   refine x_ek ?_
   refine c_norm [(2, Vl a_p2 p2 c_p2), (4, Vp b5 0), (7, Vp b0_8 0), (8, Vi i_s8_l11), (96, .slice (Ad b56 0) (([p2, x37.1, x53.1] : List (List Int))).length 3), (97, Vi ((([p2, x37.1, x53.1] : List (List Int))).length : Int)), (98, Vi 0)] ⟨rfl, rfl, rfl, rfl, rfl, rfl, rfl, trivial⟩ (fun J => ?_)
   refine c_block ?_
   obtain ⟨d58, hd58, h58⟩ := bind_some h
   obtain ⟨m58, hd58⟩ := loop_some hd58
   refine c_loop (loop_rule hmx (σ := Nat × Int) (fun s => match s with | (_, t98__s98_l58) => [(2, Vl a_p2 p2 c_p2), (4, Vp b5 0), (7, Vp b0_8 0), (8, Vi i_s8_l11), (96, .slice (Ad b56 0) (([p2, x37.1, x53.1] : List (List Int))).length 3), (97, Vi ((([p2, x37.1, x53.1] : List (List Int))).length : Int)), (98, Vi t98__s98_l58)]) (fun s w' => match s with | (m, t98__s98_l58) => loopN (law15_CertificateBytes_L58 p2 x37 x53) m t98__s98_l58 = some d58 ∧ Ev [] w w' ∧ MS w' [[b5], [b0_8], M] ∧ FR w.heap.size [[b5], [b0_8]] ∧ SlR (eInt .u8) w' (fl [[b5], [b0_8], M]) a_p2 c_p2 p2 ∧ SlR (eInt .i64) w' (fl [[b5], [b0_8], M]) a_p1_0_1 c_p1_0_1 p1_0_1 ∧ SlR (eInt .i64) w' (fl [[b5], [b0_8], M]) a_p1_1 c_p1_1 p1_1 ∧ w'.heap[b5]? = some (.cells #[Vi p1_0_0, Vl a_p1_0_1 p1_0_1 c_p1_0_1, Vl a_p1_1 p1_1 c_p1_1] 29 (0, 0)) ∧ SlR (eInt .i64) w' (fl [[b5], [b0_8], M]) a1_8 c1_8 x7.1 ∧ w'.heap[b0_8]? = some (.cells #[Vl a1_8 x7.1 c1_8, Vi x53.2] 65 (0, 0)) ∧ SlR (eSl (eInt .u8)) w' (fl [[b5], [b0_8], M]) (Ad b56 0) 3 ([p2, x37.1, x53.1] : List (List Int))) (fun s => s.1) (m58, 0) ⟨rfl, rfl, rfl, rfl, rfl, rfl, rfl, trivial⟩ ⟨hd58, hev, hms, hfr, hs_p2, hs_p1_0_1, hs_p1_1, hb5, hf8_2, hf8_1, hs56⟩ ?_)
   rintro ⟨m58, t98__s98_l58⟩ J wl58 ⟨hn58, hev, hms, hfr, hs_p2, hs_p1_0_1, hs_p1_1, hb5, hf8_2, hf8_1, hs56⟩
   rcases m58 with _ | m58
   · exact (loopN_zero hn58).elim
   obtain ⟨t58, h, hn58⟩ := bind_some hn58
   refine c_sp ?_
   refine x_u 1 [(99, .bool (decide (t98__s98_l58 < ((([p2, x37.1, x53.1] : List (List Int))).length : Int))))] ?_
   refine x_ek ?_
   refine c_norm [(2, Vl a_p2 p2 c_p2), (4, Vp b5 0), (7, Vp b0_8 0), (8, Vi i_s8_l11), (96, .slice (Ad b56 0) (([p2, x37.1, x53.1] : List (List Int))).length 3), (97, Vi ((([p2, x37.1, x53.1] : List (List Int))).length : Int)), (98, Vi t98__s98_l58), (99, .bool (decide (t98__s98_l58 < ((([p2, x37.1, x53.1] : List (List Int))).length : Int))))] ⟨rfl, rfl, rfl, rfl, rfl, rfl, rfl, rfl, trivial⟩ (fun J => ?_)
   refine c_seq ?_
   refine c_if (decide (t98__s98_l58 < ((([p2, x37.1, x53.1] : List (List Int))).length : Int))) rfl h (fun h => ?_) (fun h => ?_)
   · refine c_skip ?_
     refine k_then ?_
     refine c_seq ?_
     refine c_block ?_
     refine c_sp ?_
     obtain ⟨x60, hx60, h⟩ := bind_some h
     obtain ⟨ad60, cs60, hr60, hc60, hR⟩ := reads_index (Mo := []) tsl53 hs56 hx60
     obtain ⟨a61, c61, rfl, hs61⟩ := hR
     refine x_indexAddr (xv := .slice (Ad b56 0) (([p2, x37.1, x53.1] : List (List Int))).length 3) (yv := Vi t98__s98_l58) (.pointer (some ad60)) rfl rfl rfl rfl hr60 ?_
     refine x_load (xv := .pointer (some ad60)) (Vl a61 x60 c61) rfl rfl rfl (reads_cell0 tcell46 hc60 (fun _ h => by cases h)) ?_
     refine x_u 1 [(18, Vl a61 x60 c61)] ?_
     refine x_ek ?_
     refine c_seq ?_
     refine c_sp ?_
     refine x_u 1 [(102, Vl a61 x60 c61)] ?_
     refine x_len (vs := [Vl a61 x60 c61]) (Vi ((x60).length : Int)) rfl rfl rfl (reads_len tsl46 _ _ _ _ _) ?_
     refine x_u 1 [(104, .bool (decide (((x60).length : Int) > 600)))] ?_
     refine x_ek ?_
     refine c_if (decide (((x60).length : Int) > 600)) rfl h (fun h => ?_) (fun h => ?_)
     · refine c_exit ?_
       refine k_then_exit ?_
       refine k_block_in ?_
       refine k_then ?_
       refine c_plain ?_
       refine x_u 2 [(139, Vi (IntKind.i64.wrap (t98__s98_l58 + 1))), (98, Vi (IntKind.i64.wrap (t98__s98_l58 + 1)))] ?_
       refine x_end rfl ?_
       have hx := some_inj h
       subst hx
       exact k_then ⟨(m58, IntKind.i64.wrap (t98__s98_l58 + 1)), ⟨rfl, rfl, rfl, rfl, rfl, rfl, rfl, trivial⟩, ⟨hn58, hev, hms, hfr, hs_p2, hs_p1_0_1, hs_p1_1, hb5, hf8_2, hf8_1, hs56⟩, Nat.lt_succ_self _⟩
     refine c_skip ?_
     refine k_then ?_
     refine c_sp ?_
     refine x_u 1 [(106, Vl a61 x60 c61)] ?_
     obtain ⟨x65, hx, h⟩ := bind_some h
     have hpk : MS wl58 ([] ++ [[b5], [b0_8], M]) := hms.pick [some 0, some 1, some 2] _ rfl
     have hsb0 : ∀ x ∈ fl ([] ++ [[b5], [b0_8], M]), x ∈ fl [[b5], [b0_8], M] := pick_sub [some 0, some 1, some 2] _ rfl
     have hsb : ∀ x ∈ fl ([] ++ [(fl [[b5], [b0_8], M])]), x ∈ fl [[b5], [b0_8], M] := fun x hx => hsb0 x (fl_unfold x hx)
     have hcall := certificate_Decode_w a61 c61 x60 _ wl58 (fl [[b5], [b0_8], M]) (MS.fold (P := []) hpk) (hs61.sub hsb) hx
     refine x_call 22 #[] #[] [Vl a61 x60 c61] _ rfl rfl rfl rfl hcall ?_
     rintro v w66 ⟨a0_66, c0_66, a2_66, c2_66, rfl, he66, hmn66, hfn66, hf66_1, hf66_2⟩
     clear hcall hx
     refine inl1 ?_
     have hpk2 : MS wl58 ([] ++ [[b5], [b0_8], M]) := hms.pick [some 0, some 1, some 2] _ rfl
     have hsb2 : ∀ x ∈ fl ([] ++ [[b5], [b0_8], M]), x ∈ fl [[b5], [b0_8], M] := pick_sub [some 0, some 1, some 2] _ rfl
     have hst0 := Stp.call (LS := [[b5], [b0_8], M]) (res := [blk a0_66, blk a2_66]) (par := []) (R := [[b5], [b0_8], M]) he66 (fun b hb => hsb2 b (fl_left' (P := []) b hb)) hfn66 (NP.init _ _) (fun x hx => hsb2 x (fl_right' (P := []) x hx))
     have hsn : ∀ x ∈ fl [blk a0_66, blk a2_66, [b5], [b0_8], M], x ∈ fl ([blk a0_66, blk a2_66] ++ ([] ++ [[b5], [b0_8], M])) := pick_sub [some 0, some 1, some 2, some 3, some 4] _ rfl
     have hst := hst0.res hsn
     replace hs_p2 := hs_p2.step hst
     replace hb5 := he66.box hb5 ((MS.outs (P := []) hpk2 0 rfl) _ mem1)
     replace hs_p1_0_1 := hs_p1_0_1.step hst
     replace hs_p1_1 := hs_p1_1.step hst
     replace hf8_1 := he66.box hf8_1 ((MS.outs (P := []) hpk2 1 rfl) _ mem1)
     replace hf8_2 := hf8_2.step hst
     replace hs56 := hs56.step hst
     replace hs61 := hs61.step hst
     replace hms : MS w66 [blk a0_66, blk a2_66, [b5], [b0_8], M] := (MS.call (P := []) (R := [[b5], [b0_8], M]) (res := [blk a0_66, blk a2_66]) (par := []) hpk2 he66 hmn66 hfn66 (NP.init _ _)).pick [some 0, some 1, some 2, some 3, some 4] _ rfl
     have hfr2 : FR w.heap.size [blk a0_66, blk a2_66, [b5], [b0_8]] := (FR.cons (fun b hb => Nat.le_trans hev.size (hfn66.at 0 rfl b hb)) (FR.cons (fun b hb => Nat.le_trans hev.size (hfn66.at 1 rfl b hb)) (FR.cons (hfr.at 0 rfl) (FR.cons (hfr.at 1 rfl) (FR.nil _)))))
     replace hev := hev.ext he66
     replace hfr := hfr2
     clear hfr2
     replace hf66_1 := OwnS.plain (M' := fl [blk a0_66, blk a2_66, [b5], [b0_8], M]) (plain_int _) hf66_1
     replace hf66_2 := OwnS.plain (M' := fl [blk a0_66, blk a2_66, [b5], [b0_8], M]) (plain_int _) hf66_2
     clear hpk hsb hsb0 hpk2 hsb2 hst0 hsn hst
     have hpk : MS w66 [blk a2_66, [b5], [b0_8], M] := hms.pick [some 1, some 2, some 3, some 4] _ rfl
     have hsu : ∀ x ∈ fl [blk a2_66, [b5], [b0_8], M], x ∈ fl [blk a0_66, blk a2_66, [b5], [b0_8], M] := pick_sub [some 1, some 2, some 3, some 4] _ rfl
     replace hs_p2 := hs_p2.sub hsu
     replace hs_p1_0_1 := hs_p1_0_1.sub hsu
     replace hs_p1_1 := hs_p1_1.sub hsu
     replace hf8_2 := hf8_2.sub hsu
     replace hs56 := hs56.sub hsu
     replace hs61 := hs61.sub hsu
     replace hf66_1 := hf66_1.ro hsu (pick_out hms 0 rfl [some 1, some 2, some 3, some 4] [blk a2_66, [b5], [b0_8], M] rfl rfl)
     replace hf66_2 := hf66_2.sub hsu
     replace hms := hpk
     replace hfr : FR w.heap.size [blk a2_66, [b5], [b0_8]] := hfr.pick [some 1, some 2, some 3] _ rfl
     clear hpk hsu
     have hpk : MS w66 [[b5], [b0_8], M] := hms.pick [some 1, some 2, some 3] _ rfl
     have hsu : ∀ x ∈ fl [[b5], [b0_8], M], x ∈ fl [blk a2_66, [b5], [b0_8], M] := pick_sub [some 1, some 2, some 3] _ rfl
     replace hs_p2 := hs_p2.sub hsu
     replace hs_p1_0_1 := hs_p1_0_1.sub hsu
     replace hs_p1_1 := hs_p1_1.sub hsu
     replace hf8_2 := hf8_2.sub hsu
     replace hs56 := hs56.sub hsu
     replace hs61 := hs61.sub hsu
     replace hf66_1 := hf66_1.sub hsu
     replace hf66_2 := hf66_2.ro hsu (pick_out hms 0 rfl [some 1, some 2, some 3] [[b5], [b0_8], M] rfl rfl)
     replace hms := hpk
     replace hfr : FR w.heap.size [[b5], [b0_8]] := hfr.pick [some 1, some 2] _ rfl
     clear hpk hsu
     refine x_u 3 [(105, .tuple #[.agg #[Vi x65.1.1.1, Vl a0_66 x65.1.1.2 c0_66, Vl a2_66 x65.1.2 c2_66], Vi x65.2]), (108, .agg #[Vi x65.1.1.1, Vl a0_66 x65.1.1.2 c0_66, Vl a2_66 x65.1.2 c2_66]), (109, Vi x65.2)] ?_
     refine x_alloc (z := .agg #[Vi 0, .slice none 0 0, .slice none 0 0]) rfl rfl (by kernel_rfl) (fun b69 w69 hq69 hb69 he69 hz69 => ?_)
     replace hb69 : w69.heap[b69]? = some (.cells #[Vi 0, .slice none 0 0, .slice none 0 0] 29 (0, 0)) := hb69
     refine inl1 ?_
     have hst := Stp.box (ls := [[b5], [b0_8], M]) he69 hq69
     replace hs_p2 := hs_p2.step hst
     replace hb5 := he69.box hb5 nn
     replace hs_p1_0_1 := hs_p1_0_1.step hst
     replace hs_p1_1 := hs_p1_1.step hst
     replace hf8_1 := he69.box hf8_1 nn
     replace hf8_2 := hf8_2.step hst
     replace hs56 := hs56.step hst
     replace hs61 := hs61.step hst
     replace hf66_1 := hf66_1.step hst
     replace hf66_2 := hf66_2.step hst
     replace hms := hms.box he69 hq69 hb69
     replace hfr := hfr.box hev.size hq69
     replace hev := hev.ext he69
     obtain ⟨w71, hr71, hb71, he71⟩ := store_boxagg 0 [Vi x65.1.1.1, Vl a0_66 x65.1.1.2 c0_66, Vl a2_66 x65.1.2 c2_66] #[Vi x65.1.1.1, Vl a0_66 x65.1.1.2 c0_66, Vl a2_66 x65.1.2 c2_66] tagg29 hb69 rfl rfl rfl
     refine x_store w71 (xv := Vp b69 0) (yv := .agg #[Vi x65.1.1.1, Vl a0_66 x65.1.1.2 c0_66, Vl a2_66 x65.1.2 c2_66]) rfl rfl rfl rfl hr71 ?_
     refine inl1 ?_
     have hst := Stp.ev' (ls := [[b69], [b5], [b0_8], M]) he71 (mem_flat 0 rfl)
     replace hs_p2 := hs_p2.step hst
     replace hb5 := he71.box hb5 (hms.apart 1 0 rfl rfl rfl _ mem1)
     replace hs_p1_0_1 := hs_p1_0_1.step hst
     replace hs_p1_1 := hs_p1_1.step hst
     replace hf8_1 := he71.box hf8_1 (hms.apart 2 0 rfl rfl rfl _ mem1)
     replace hf8_2 := hf8_2.step hst
     replace hs56 := hs56.step hst
     replace hs61 := hs61.step hst
     replace hf66_1 := hf66_1.step hst
     replace hf66_2 := hf66_2.step hst
     replace hms := hms.ev he71
     replace hev := hev.then he71 (fun b hb => .inr (hfr.at 0 rfl b hb))
     replace hb69 := hb71
     refine x_u 1 [(20, Vi x65.2)] ?_
     refine x_ek ?_
     refine c_norm [(2, Vl a_p2 p2 c_p2), (4, Vp b5 0), (7, Vp b0_8 0), (8, Vi i_s8_l11), (18, Vl a61 x60 c61), (19, Vp b69 0), (20, Vi x65.2), (96, .slice (Ad b56 0) (([p2, x37.1, x53.1] : List (List Int))).length 3), (97, Vi ((([p2, x37.1, x53.1] : List (List Int))).length : Int)), (98, Vi t98__s98_l58)] ⟨rfl, rfl, rfl, rfl, rfl, rfl, rfl, rfl, rfl, rfl, trivial⟩ (fun J => ?_)
     refine c_sp ?_
     refine x_u 1 [(111, Vl a61 x60 c61)] ?_
     obtain ⟨x72, hx, h⟩ := bind_some h
     have hpk : MS w71 ([] ++ [[b69], [b5], [b0_8], M]) := hms.pick [some 0, some 1, some 2, some 3] _ rfl
     have hsb0 : ∀ x ∈ fl ([] ++ [[b69], [b5], [b0_8], M]), x ∈ fl [[b69], [b5], [b0_8], M] := pick_sub [some 0, some 1, some 2, some 3] _ rfl
     have hsb : ∀ x ∈ fl ([] ++ [(fl [[b69], [b5], [b0_8], M])]), x ∈ fl [[b69], [b5], [b0_8], M] := fun x hx => hsb0 x (fl_unfold x hx)
     have hcall := r15_Decode_w a61 c61 x60 _ w71 (fl [[b69], [b5], [b0_8], M]) (MS.fold (P := []) hpk) (hs61.sub hsb) hx
     refine x_call 26 #[] #[] [Vl a61 x60 c61] _ rfl rfl rfl rfl hcall ?_
     rintro v w73 ⟨a0_73, c0_73, a2_73, c2_73, rfl, he73, hmn73, hfn73, hf73_1, hf73_2⟩
     clear hcall hx
     refine inl1 ?_
     have hpk2 : MS w71 ([] ++ [[b69], [b5], [b0_8], M]) := hms.pick [some 0, some 1, some 2, some 3] _ rfl
     have hsb2 : ∀ x ∈ fl ([] ++ [[b69], [b5], [b0_8], M]), x ∈ fl [[b69], [b5], [b0_8], M] := pick_sub [some 0, some 1, some 2, some 3] _ rfl
     have hst0 := Stp.call (LS := [[b69], [b5], [b0_8], M]) (res := [blk a0_73, blk a2_73]) (par := []) (R := [[b69], [b5], [b0_8], M]) he73 (fun b hb => hsb2 b (fl_left' (P := []) b hb)) hfn73 (NP.init _ _) (fun x hx => hsb2 x (fl_right' (P := []) x hx))
     have hsn : ∀ x ∈ fl [blk a0_73, blk a2_73, [b69], [b5], [b0_8], M], x ∈ fl ([blk a0_73, blk a2_73] ++ ([] ++ [[b69], [b5], [b0_8], M])) := pick_sub [some 0, some 1, some 2, some 3, some 4, some 5] _ rfl
     have hst := hst0.res hsn
     replace hs_p2 := hs_p2.step hst
     replace hb5 := he73.box hb5 ((MS.outs (P := []) hpk2 1 rfl) _ mem1)
     replace hs_p1_0_1 := hs_p1_0_1.step hst
     replace hs_p1_1 := hs_p1_1.step hst
     replace hf8_1 := he73.box hf8_1 ((MS.outs (P := []) hpk2 2 rfl) _ mem1)
     replace hf8_2 := hf8_2.step hst
     replace hs56 := hs56.step hst
     replace hs61 := hs61.step hst
     replace hf66_1 := hf66_1.step hst
     replace hf66_2 := hf66_2.step hst
     replace hb69 := he73.box hb69 ((MS.outs (P := []) hpk2 0 rfl) _ mem1)
     replace hms : MS w73 [blk a0_73, blk a2_73, [b69], [b5], [b0_8], M] := (MS.call (P := []) (R := [[b69], [b5], [b0_8], M]) (res := [blk a0_73, blk a2_73]) (par := []) hpk2 he73 hmn73 hfn73 (NP.init _ _)).pick [some 0, some 1, some 2, some 3, some 4, some 5] _ rfl
     have hfr2 : FR w.heap.size [blk a0_73, blk a2_73, [b69], [b5], [b0_8]] := (FR.cons (fun b hb => Nat.le_trans hev.size (hfn73.at 0 rfl b hb)) (FR.cons (fun b hb => Nat.le_trans hev.size (hfn73.at 1 rfl b hb)) (FR.cons (hfr.at 0 rfl) (FR.cons (hfr.at 1 rfl) (FR.cons (hfr.at 2 rfl) (FR.nil _))))))
     replace hev := hev.ext he73
     replace hfr := hfr2
     clear hfr2
     replace hf73_1 := OwnS.plain (M' := fl [blk a0_73, blk a2_73, [b69], [b5], [b0_8], M]) (plain_int _) hf73_1
     replace hf73_2 := OwnS.plain (M' := fl [blk a0_73, blk a2_73, [b69], [b5], [b0_8], M]) (plain_int _) hf73_2
     clear hpk hsb hsb0 hpk2 hsb2 hst0 hsn hst
     have hpk : MS w73 [blk a2_73, [b69], [b5], [b0_8], M] := hms.pick [some 1, some 2, some 3, some 4, some 5] _ rfl
     have hsu : ∀ x ∈ fl [blk a2_73, [b69], [b5], [b0_8], M], x ∈ fl [blk a0_73, blk a2_73, [b69], [b5], [b0_8], M] := pick_sub [some 1, some 2, some 3, some 4, some 5] _ rfl
     replace hs_p2 := hs_p2.sub hsu
     replace hs_p1_0_1 := hs_p1_0_1.sub hsu
     replace hs_p1_1 := hs_p1_1.sub hsu
     replace hf8_2 := hf8_2.sub hsu
     replace hs56 := hs56.sub hsu
     replace hs61 := hs61.sub hsu
     replace hf66_1 := hf66_1.sub hsu
     replace hf66_2 := hf66_2.sub hsu
     replace hf73_1 := hf73_1.ro hsu (pick_out hms 0 rfl [some 1, some 2, some 3, some 4, some 5] [blk a2_73, [b69], [b5], [b0_8], M] rfl rfl)
     replace hf73_2 := hf73_2.sub hsu
     replace hms := hpk
     replace hfr : FR w.heap.size [blk a2_73, [b69], [b5], [b0_8]] := hfr.pick [some 1, some 2, some 3, some 4] _ rfl
     clear hpk hsu
     have hpk : MS w73 [[b69], [b5], [b0_8], M] := hms.pick [some 1, some 2, some 3, some 4] _ rfl
     have hsu : ∀ x ∈ fl [[b69], [b5], [b0_8], M], x ∈ fl [blk a2_73, [b69], [b5], [b0_8], M] := pick_sub [some 1, some 2, some 3, some 4] _ rfl
     replace hs_p2 := hs_p2.sub hsu
     replace hs_p1_0_1 := hs_p1_0_1.sub hsu
     replace hs_p1_1 := hs_p1_1.sub hsu
     replace hf8_2 := hf8_2.sub hsu
     replace hs56 := hs56.sub hsu
     replace hs61 := hs61.sub hsu
     replace hf66_1 := hf66_1.sub hsu
     replace hf66_2 := hf66_2.sub hsu
     replace hf73_1 := hf73_1.sub hsu
     replace hf73_2 := hf73_2.ro hsu (pick_out hms 0 rfl [some 1, some 2, some 3, some 4] [[b69], [b5], [b0_8], M] rfl rfl)
     replace hms := hpk
     replace hfr : FR w.heap.size [[b69], [b5], [b0_8]] := hfr.pick [some 1, some 2, some 3] _ rfl
     clear hpk hsu
     refine x_u 3 [(110, .tuple #[.agg #[Vi x72.1.1.1, Vl a0_73 x72.1.1.2 c0_73, Vl a2_73 x72.1.2 c2_73], Vi x72.2]), (113, .agg #[Vi x72.1.1.1, Vl a0_73 x72.1.1.2 c0_73, Vl a2_73 x72.1.2 c2_73]), (114, Vi x72.2)] ?_
     refine x_alloc (z := .agg #[Vi 0, .slice none 0 0, .slice none 0 0]) rfl rfl (by kernel_rfl) (fun b76 w76 hq76 hb76 he76 hz76 => ?_)
     replace hb76 : w76.heap[b76]? = some (.cells #[Vi 0, .slice none 0 0, .slice none 0 0] 29 (0, 0)) := hb76
     refine inl1 ?_
     have hst := Stp.box (ls := [[b69], [b5], [b0_8], M]) he76 hq76
     replace hs_p2 := hs_p2.step hst
     replace hb5 := he76.box hb5 nn
     replace hs_p1_0_1 := hs_p1_0_1.step hst
     replace hs_p1_1 := hs_p1_1.step hst
     replace hf8_1 := he76.box hf8_1 nn
     replace hf8_2 := hf8_2.step hst
     replace hs56 := hs56.step hst
     replace hs61 := hs61.step hst
     replace hf66_1 := hf66_1.step hst
     replace hf66_2 := hf66_2.step hst
     replace hb69 := he76.box hb69 nn
     replace hf73_1 := hf73_1.step hst
     replace hf73_2 := hf73_2.step hst
     replace hms := hms.box he76 hq76 hb76
     replace hfr := hfr.box hev.size hq76
     replace hev := hev.ext he76
     obtain ⟨w78, hr78, hb78, he78⟩ := store_boxagg 0 [Vi x72.1.1.1, Vl a0_73 x72.1.1.2 c0_73, Vl a2_73 x72.1.2 c2_73] #[Vi x72.1.1.1, Vl a0_73 x72.1.1.2 c0_73, Vl a2_73 x72.1.2 c2_73] tagg29 hb76 rfl rfl rfl
     refine x_store w78 (xv := Vp b76 0) (yv := .agg #[Vi x72.1.1.1, Vl a0_73 x72.1.1.2 c0_73, Vl a2_73 x72.1.2 c2_73]) rfl rfl rfl rfl hr78 ?_
     refine inl1 ?_
     have hst := Stp.ev' (ls := [[b76], [b69], [b5], [b0_8], M]) he78 (mem_flat 0 rfl)
     replace hs_p2 := hs_p2.step hst
     replace hb5 := he78.box hb5 (hms.apart 2 0 rfl rfl rfl _ mem1)
     replace hs_p1_0_1 := hs_p1_0_1.step hst
     replace hs_p1_1 := hs_p1_1.step hst
     replace hf8_1 := he78.box hf8_1 (hms.apart 3 0 rfl rfl rfl _ mem1)
     replace hf8_2 := hf8_2.step hst
     replace hs56 := hs56.step hst
     replace hs61 := hs61.step hst
     replace hf66_1 := hf66_1.step hst
     replace hf66_2 := hf66_2.step hst
     replace hb69 := he78.box hb69 (hms.apart 1 0 rfl rfl rfl _ mem1)
     replace hf73_1 := hf73_1.step hst
     replace hf73_2 := hf73_2.step hst
     replace hms := hms.ev he78
     replace hev := hev.then he78 (fun b hb => .inr (hfr.at 0 rfl b hb))
     replace hb76 := hb78
     refine x_u 1 [(22, Vi x72.2)] ?_
     refine x_ek ?_
     refine c_seq ?_
     refine c_sp ?_
     refine x_load (xv := Vp b69 0) (.agg #[Vi x65.1.1.1, Vl a0_66 x65.1.1.2 c0_66, Vl a2_66 x65.1.2 c2_66]) rfl rfl rfl (reads_boxagg 0 [Vi x65.1.1.1, Vl a0_66 x65.1.1.2 c0_66, Vl a2_66 x65.1.2 c2_66] tagg29 hb69 nn rfl) ?_
     refine x_load (xv := Vp b76 0) (.agg #[Vi x72.1.1.1, Vl a0_73 x72.1.1.2 c0_73, Vl a2_73 x72.1.2 c2_73]) rfl rfl rfl (reads_boxagg 0 [Vi x72.1.1.1, Vl a0_73 x72.1.1.2 c0_73, Vl a2_73 x72.1.2 c2_73] tagg29 hb76 nn rfl) ?_
     obtain ⟨x80, hx, h⟩ := bind_some h
     have hpk : MS w78 ([] ++ [[b76], [b69], [b5], [b0_8], M]) := hms.pick [some 0, some 1, some 2, some 3, some 4] _ rfl
     have hsb0 : ∀ x ∈ fl ([] ++ [[b76], [b69], [b5], [b0_8], M]), x ∈ fl [[b76], [b69], [b5], [b0_8], M] := pick_sub [some 0, some 1, some 2, some 3, some 4] _ rfl
     have hsb : ∀ x ∈ fl ([] ++ [(fl [[b76], [b69], [b5], [b0_8], M])]), x ∈ fl [[b76], [b69], [b5], [b0_8], M] := fun x hx => hsb0 x (fl_unfold x hx)
     have hcall := gen_Proofs_w x65.1.1.1 a0_66 c0_66 x65.1.1.2 a2_66 c2_66 x65.1.2 x72.1.1.1 a0_73 c0_73 x72.1.1.2 a2_73 c2_73 x72.1.2 _ w78 (fl [[b76], [b69], [b5], [b0_8], M]) (MS.fold (P := []) hpk) (hf66_1.sub hsb) (hf66_2.sub hsb) (hf73_1.sub hsb) (hf73_2.sub hsb) hx
     refine x_call 12 #[] #[] [.agg #[Vi x65.1.1.1, Vl a0_66 x65.1.1.2 c0_66, Vl a2_66 x65.1.2 c2_66], .agg #[Vi x72.1.1.1, Vl a0_73 x72.1.1.2 c0_73, Vl a2_73 x72.1.2 c2_73]] _ rfl rfl rfl rfl hcall ?_
     rintro v w81 ⟨rfl, he81⟩
     clear hcall hx
     refine inl1 ?_
     have hst := Stp.ext (ls := [[b76], [b69], [b5], [b0_8], M]) he81
     replace hs_p2 := hs_p2.step hst
     replace hb5 := he81.box hb5 nn
     replace hs_p1_0_1 := hs_p1_0_1.step hst
     replace hs_p1_1 := hs_p1_1.step hst
     replace hf8_1 := he81.box hf8_1 nn
     replace hf8_2 := hf8_2.step hst
     replace hs56 := hs56.step hst
     replace hs61 := hs61.step hst
     replace hf66_1 := hf66_1.step hst
     replace hf66_2 := hf66_2.step hst
     replace hb69 := he81.box hb69 nn
     replace hf73_1 := hf73_1.step hst
     replace hf73_2 := hf73_2.step hst
     replace hb76 := he81.box hb76 nn
     replace hms := hms.ev he81
     replace hev := hev.ext he81
     clear hpk hsb hsb0
     refine x_u 2 [(118, .bool (!x80)), (119, .bool (!x80))] ?_
     refine x_if 119 (!x80) rfl h (fun h => ?_) (fun h => ?_)
     · refine x_u 4 [(120, undef), (121, undef), (122, undef), (123, .bool true)] ?_
       refine x_ek ?_
       refine c_norm [(2, Vl a_p2 p2 c_p2), (4, Vp b5 0), (7, Vp b0_8 0), (8, Vi i_s8_l11), (18, Vl a61 x60 c61), (19, Vp b69 0), (20, Vi x65.2), (96, .slice (Ad b56 0) (([p2, x37.1, x53.1] : List (List Int))).length 3), (97, Vi ((([p2, x37.1, x53.1] : List (List Int))).length : Int)), (98, Vi t98__s98_l58), (123, .bool true)] ⟨rfl, rfl, rfl, rfl, rfl, rfl, rfl, rfl, rfl, rfl, rfl, trivial⟩ (fun J => ?_)
       refine c_true rfl ?_
       refine c_sp ?_
       refine x_u 1 [(6, .bool false)] ?_
       refine x_ek ?_
       refine c_ret ?_
       refine k_then_ret ?_
       refine k_block_ret ?_
       refine k_then_ret ?_
       have hx := some_inj h
       subst hx
       have hy := some_inj hn58
       subst hy
       replace h := h58
       refine k_then_ret ?_
       refine k_block_ret ?_
       refine k_block_ret ?_
       refine k_then_ret ?_
       have hx := some_inj h
       subst hx
       have hy := some_inj hn11
       subst hy
       replace h := h11
       refine k_then_ret ?_
       refine k_block_ret ?_
       refine k_then_ret ?_
       refine r_ret (r_vals [.bool false] ⟨rfl, trivial⟩ ?_)
       have hx := some_inj h
       subst hx
       have hmr : MS w81 [M] := hms.pick [some 4] _ rfl
       have hsu : ∀ x ∈ fl [M], x ∈ fl [[b76], [b69], [b5], [b0_8], M] := pick_sub [some 4] _ rfl
       exact ⟨rfl, hev⟩
     refine x_u 4 [(120, Vi x65.2), (121, Vi x72.2), (122, .bool (x65.2 != x72.2)), (123, .bool (x65.2 != x72.2))] ?_
     refine x_ek ?_
     refine c_norm [(2, Vl a_p2 p2 c_p2), (4, Vp b5 0), (7, Vp b0_8 0), (8, Vi i_s8_l11), (18, Vl a61 x60 c61), (19, Vp b69 0), (20, Vi x65.2), (96, .slice (Ad b56 0) (([p2, x37.1, x53.1] : List (List Int))).length 3), (97, Vi ((([p2, x37.1, x53.1] : List (List Int))).length : Int)), (98, Vi t98__s98_l58), (123, .bool (x65.2 != x72.2))] ⟨rfl, rfl, rfl, rfl, rfl, rfl, rfl, rfl, rfl, rfl, rfl, trivial⟩ (fun J => ?_)
     refine c_if (x65.2 != x72.2) rfl h (fun h => ?_) (fun h => ?_)
     · refine c_sp ?_
       refine x_u 1 [(6, .bool false)] ?_
       refine x_ek ?_
       refine c_ret ?_
       refine k_then_ret ?_
       refine k_block_ret ?_
       refine k_then_ret ?_
       have hx := some_inj h
       subst hx
       have hy := some_inj hn58
       subst hy
       replace h := h58
       refine k_then_ret ?_
       refine k_block_ret ?_
       refine k_block_ret ?_
       refine k_then_ret ?_
       have hx := some_inj h
       subst hx
       have hy := some_inj hn11
       subst hy
       replace h := h11
       refine k_then_ret ?_
       refine k_block_ret ?_
       refine k_then_ret ?_
       refine r_ret (r_vals [.bool false] ⟨rfl, trivial⟩ ?_)
       have hx := some_inj h
       subst hx
       have hmr : MS w81 [M] := hms.pick [some 4] _ rfl
       have hsu : ∀ x ∈ fl [M], x ∈ fl [[b76], [b69], [b5], [b0_8], M] := pick_sub [some 4] _ rfl
       exact ⟨rfl, hev⟩
     refine c_skip ?_
     refine k_then ?_
     refine c_sp ?_
     refine x_u 2 [(124, Vi x65.2), (125, .bool (x65.2 == 0))] ?_
     refine x_ek ?_
     refine c_if (x65.2 == 0) rfl h (fun h => ?_) (fun h => ?_)
     · refine c_sp ?_
       refine x_load (xv := Vp b69 0) (.agg #[Vi x65.1.1.1, Vl a0_66 x65.1.1.2 c0_66, Vl a2_66 x65.1.2 c2_66]) rfl rfl rfl (reads_boxagg 0 [Vi x65.1.1.1, Vl a0_66 x65.1.1.2 c0_66, Vl a2_66 x65.1.2 c2_66] tagg29 hb69 nn rfl) ?_
       obtain ⟨x82, hx, h⟩ := bind_some h
       have hpk : MS w81 ([] ++ [[b76], [b69], [b5], [b0_8], M]) := hms.pick [some 0, some 1, some 2, some 3, some 4] _ rfl
       have hsb0 : ∀ x ∈ fl ([] ++ [[b76], [b69], [b5], [b0_8], M]), x ∈ fl [[b76], [b69], [b5], [b0_8], M] := pick_sub [some 0, some 1, some 2, some 3, some 4] _ rfl
       have hsb : ∀ x ∈ fl ([] ++ [(fl [[b76], [b69], [b5], [b0_8], M])]), x ∈ fl [[b76], [b69], [b5], [b0_8], M] := fun x hx => hsb0 x (fl_unfold x hx)
       have hcall := certificate_Encode_w x65.1.1.1 a0_66 c0_66 x65.1.1.2 a2_66 c2_66 x65.1.2 _ w81 (fl [[b76], [b69], [b5], [b0_8], M]) (MS.fold (P := []) hpk) (hf66_1.sub hsb) (hf66_2.sub hsb) hx
       refine x_call 21 #[] #[] [.agg #[Vi x65.1.1.1, Vl a0_66 x65.1.1.2 c0_66, Vl a2_66 x65.1.2 c2_66]] _ rfl rfl rfl rfl hcall ?_
       rintro v w83 ⟨a0_83, c0_83, rfl, he83, hmn83, hfn83, hf83_1⟩
       clear hcall hx
       refine inl1 ?_
       have hpk2 : MS w81 ([] ++ [[b76], [b69], [b5], [b0_8], M]) := hms.pick [some 0, some 1, some 2, some 3, some 4] _ rfl
       have hsb2 : ∀ x ∈ fl ([] ++ [[b76], [b69], [b5], [b0_8], M]), x ∈ fl [[b76], [b69], [b5], [b0_8], M] := pick_sub [some 0, some 1, some 2, some 3, some 4] _ rfl
       have hst0 := Stp.call (LS := [[b76], [b69], [b5], [b0_8], M]) (res := [blk a0_83]) (par := []) (R := [[b76], [b69], [b5], [b0_8], M]) he83 (fun b hb => hsb2 b (fl_left' (P := []) b hb)) hfn83 (NP.init _ _) (fun x hx => hsb2 x (fl_right' (P := []) x hx))
       have hsn : ∀ x ∈ fl [blk a0_83, [b76], [b69], [b5], [b0_8], M], x ∈ fl ([blk a0_83] ++ ([] ++ [[b76], [b69], [b5], [b0_8], M])) := pick_sub [some 0, some 1, some 2, some 3, some 4, some 5] _ rfl
       have hst := hst0.res hsn
       replace hs_p2 := hs_p2.step hst
       replace hb5 := he83.box hb5 ((MS.outs (P := []) hpk2 2 rfl) _ mem1)
       replace hs_p1_0_1 := hs_p1_0_1.step hst
       replace hs_p1_1 := hs_p1_1.step hst
       replace hf8_1 := he83.box hf8_1 ((MS.outs (P := []) hpk2 3 rfl) _ mem1)
       replace hf8_2 := hf8_2.step hst
       replace hs56 := hs56.step hst
       replace hs61 := hs61.step hst
       replace hf66_1 := hf66_1.step hst
       replace hf66_2 := hf66_2.step hst
       replace hb69 := he83.box hb69 ((MS.outs (P := []) hpk2 1 rfl) _ mem1)
       replace hf73_1 := hf73_1.step hst
       replace hf73_2 := hf73_2.step hst
       replace hb76 := he83.box hb76 ((MS.outs (P := []) hpk2 0 rfl) _ mem1)
       replace hms : MS w83 [blk a0_83, [b76], [b69], [b5], [b0_8], M] := (MS.call (P := []) (R := [[b76], [b69], [b5], [b0_8], M]) (res := [blk a0_83]) (par := []) hpk2 he83 hmn83 hfn83 (NP.init _ _)).pick [some 0, some 1, some 2, some 3, some 4, some 5] _ rfl
       have hfr2 : FR w.heap.size [blk a0_83, [b76], [b69], [b5], [b0_8]] := (FR.cons (fun b hb => Nat.le_trans hev.size (hfn83.at 0 rfl b hb)) (FR.cons (hfr.at 0 rfl) (FR.cons (hfr.at 1 rfl) (FR.cons (hfr.at 2 rfl) (FR.cons (hfr.at 3 rfl) (FR.nil _))))))
       replace hev := hev.ext he83
       replace hfr := hfr2
       clear hfr2
       replace hf83_1 := OwnS.plain (M' := fl [blk a0_83, [b76], [b69], [b5], [b0_8], M]) (plain_int _) hf83_1
       clear hpk hsb hsb0 hpk2 hsb2 hst0 hsn hst
       have hpk : MS w83 [[b76], [b69], [b5], [b0_8], M] := hms.pick [some 1, some 2, some 3, some 4, some 5] _ rfl
       have hsu : ∀ x ∈ fl [[b76], [b69], [b5], [b0_8], M], x ∈ fl [blk a0_83, [b76], [b69], [b5], [b0_8], M] := pick_sub [some 1, some 2, some 3, some 4, some 5] _ rfl
       replace hs_p2 := hs_p2.sub hsu
       replace hs_p1_0_1 := hs_p1_0_1.sub hsu
       replace hs_p1_1 := hs_p1_1.sub hsu
       replace hf8_2 := hf8_2.sub hsu
       replace hs56 := hs56.sub hsu
       replace hs61 := hs61.sub hsu
       replace hf66_1 := hf66_1.sub hsu
       replace hf66_2 := hf66_2.sub hsu
       replace hf73_1 := hf73_1.sub hsu
       replace hf73_2 := hf73_2.sub hsu
       replace hf83_1 := hf83_1.ro hsu (pick_out hms 0 rfl [some 1, some 2, some 3, some 4, some 5] [[b76], [b69], [b5], [b0_8], M] rfl rfl)
       replace hms := hpk
       replace hfr : FR w.heap.size [[b76], [b69], [b5], [b0_8]] := hfr.pick [some 1, some 2, some 3, some 4] _ rfl
       clear hpk hsu
       refine x_u 5 [(126, .tuple #[Vl a0_83 x82.1 c0_83, Vi x82.2]), (129, Vl a0_83 x82.1 c0_83), (130, Vi x82.2), (23, Vl a0_83 x82.1 c0_83), (24, Vi x82.2)] ?_
       refine x_ek ?_
       refine c_sp ?_
       refine x_u 3 [(131, Vi x82.2), (132, .bool (x82.2 != 0)), (133, .bool (x82.2 != 0))] ?_
       refine x_if 133 (x82.2 != 0) rfl h (fun h => ?_) (fun h => ?_)
       · refine x_u 5 [(134, undef), (135, undef), (136, undef), (137, undef), (138, .bool true)] ?_
         refine x_ek ?_
         refine c_norm [(2, Vl a_p2 p2 c_p2), (4, Vp b5 0), (7, Vp b0_8 0), (8, Vi i_s8_l11), (96, .slice (Ad b56 0) (([p2, x37.1, x53.1] : List (List Int))).length 3), (97, Vi ((([p2, x37.1, x53.1] : List (List Int))).length : Int)), (98, Vi t98__s98_l58), (138, .bool true)] ⟨rfl, rfl, rfl, rfl, rfl, rfl, rfl, rfl, trivial⟩ (fun J => ?_)
         refine c_true rfl ?_
         refine c_sp ?_
         refine x_u 1 [(6, .bool false)] ?_
         refine x_ek ?_
         refine c_ret ?_
         refine k_block_ret ?_
         refine k_then_ret ?_
         have hx := some_inj h
         subst hx
         have hy := some_inj hn58
         subst hy
         replace h := h58
         refine k_then_ret ?_
         refine k_block_ret ?_
         refine k_block_ret ?_
         refine k_then_ret ?_
         have hx := some_inj h
         subst hx
         have hy := some_inj hn11
         subst hy
         replace h := h11
         refine k_then_ret ?_
         refine k_block_ret ?_
         refine k_then_ret ?_
         refine r_ret (r_vals [.bool false] ⟨rfl, trivial⟩ ?_)
         have hx := some_inj h
         subst hx
         have hmr : MS w83 [M] := hms.pick [some 4] _ rfl
         have hsu : ∀ x ∈ fl [M], x ∈ fl [[b76], [b69], [b5], [b0_8], M] := pick_sub [some 4] _ rfl
         exact ⟨rfl, hev⟩
       refine x_u 2 [(134, Vl a61 x60 c61), (135, Vl a0_83 x82.1 c0_83)] ?_
       obtain ⟨x85, hx, h⟩ := bind_some h
       have hpk : MS w83 ([] ++ [[b76], [b69], [b5], [b0_8], M]) := hms.pick [some 0, some 1, some 2, some 3, some 4] _ rfl
       have hsb0 : ∀ x ∈ fl ([] ++ [[b76], [b69], [b5], [b0_8], M]), x ∈ fl [[b76], [b69], [b5], [b0_8], M] := pick_sub [some 0, some 1, some 2, some 3, some 4] _ rfl
       have hsb : ∀ x ∈ fl ([] ++ [(fl [[b76], [b69], [b5], [b0_8], M])]), x ∈ fl [[b76], [b69], [b5], [b0_8], M] := fun x hx => hsb0 x (fl_unfold x hx)
       have hcall := gen_Bytes_w a61 c61 x60 a0_83 c0_83 x82.1 _ w83 (fl [[b76], [b69], [b5], [b0_8], M]) (MS.fold (P := []) hpk) (hs61.sub hsb) (hf83_1.sub hsb) hx
       refine x_call 24 #[] #[] [Vl a61 x60 c61, Vl a0_83 x82.1 c0_83] _ rfl rfl rfl rfl hcall ?_
       rintro v w86 ⟨rfl, he86⟩
       clear hcall hx
       refine inl1 ?_
       have hst := Stp.ext (ls := [[b76], [b69], [b5], [b0_8], M]) he86
       replace hs_p2 := hs_p2.step hst
       replace hb5 := he86.box hb5 nn
       replace hs_p1_0_1 := hs_p1_0_1.step hst
       replace hs_p1_1 := hs_p1_1.step hst
       replace hf8_1 := he86.box hf8_1 nn
       replace hf8_2 := hf8_2.step hst
       replace hs56 := hs56.step hst
       replace hs61 := hs61.step hst
       replace hf66_1 := hf66_1.step hst
       replace hf66_2 := hf66_2.step hst
       replace hb69 := he86.box hb69 nn
       replace hf73_1 := hf73_1.step hst
       replace hf73_2 := hf73_2.step hst
       replace hb76 := he86.box hb76 nn
       replace hf83_1 := hf83_1.step hst
       replace hms := hms.ev he86
       replace hev := hev.ext he86
       clear hpk hsb hsb0
       refine x_u 2 [(137, .bool (!x85)), (138, .bool (!x85))] ?_
       refine x_ek ?_
       refine c_norm [(2, Vl a_p2 p2 c_p2), (4, Vp b5 0), (7, Vp b0_8 0), (8, Vi i_s8_l11), (96, .slice (Ad b56 0) (([p2, x37.1, x53.1] : List (List Int))).length 3), (97, Vi ((([p2, x37.1, x53.1] : List (List Int))).length : Int)), (98, Vi t98__s98_l58), (138, .bool (!x85))] ⟨rfl, rfl, rfl, rfl, rfl, rfl, rfl, rfl, trivial⟩ (fun J => ?_)
       refine c_if (!x85) rfl h (fun h => ?_) (fun h => ?_)
       · refine c_sp ?_
         refine x_u 1 [(6, .bool false)] ?_
         refine x_ek ?_
         refine c_ret ?_
         refine k_block_ret ?_
         refine k_then_ret ?_
         have hx := some_inj h
         subst hx
         have hy := some_inj hn58
         subst hy
         replace h := h58
         refine k_then_ret ?_
         refine k_block_ret ?_
         refine k_block_ret ?_
         refine k_then_ret ?_
         have hx := some_inj h
         subst hx
         have hy := some_inj hn11
         subst hy
         replace h := h11
         refine k_then_ret ?_
         refine k_block_ret ?_
         refine k_then_ret ?_
         refine r_ret (r_vals [.bool false] ⟨rfl, trivial⟩ ?_)
         have hx := some_inj h
         subst hx
         have hmr : MS w86 [M] := hms.pick [some 4] _ rfl
         have hsu : ∀ x ∈ fl [M], x ∈ fl [[b76], [b69], [b5], [b0_8], M] := pick_sub [some 4] _ rfl
         exact ⟨rfl, hev⟩
       refine c_skip ?_
       refine k_block ?_
       refine k_then ?_
       refine c_plain ?_
       refine x_u 2 [(139, Vi (IntKind.i64.wrap (t98__s98_l58 + 1))), (98, Vi (IntKind.i64.wrap (t98__s98_l58 + 1)))] ?_
       refine x_end rfl ?_
       have hx := some_inj h
       subst hx
       have hpk : MS w86 [[b5], [b0_8], M] := hms.pick [some 2, some 3, some 4] _ rfl
       have hsu : ∀ x ∈ fl [[b5], [b0_8], M], x ∈ fl [[b76], [b69], [b5], [b0_8], M] := pick_sub [some 2, some 3, some 4] _ rfl
       replace hs_p2 := hs_p2.sub hsu
       replace hs_p1_0_1 := hs_p1_0_1.sub hsu
       replace hs_p1_1 := hs_p1_1.sub hsu
       replace hf8_2 := hf8_2.sub hsu
       replace hs56 := hs56.sub hsu
       replace hms := hpk
       replace hfr : FR w.heap.size [[b5], [b0_8]] := hfr.pick [some 2, some 3] _ rfl
       clear hpk hsu
       exact k_then ⟨(m58, IntKind.i64.wrap (t98__s98_l58 + 1)), ⟨rfl, rfl, rfl, rfl, rfl, rfl, rfl, trivial⟩, ⟨hn58, hev, hms, hfr, hs_p2, hs_p1_0_1, hs_p1_1, hb5, hf8_2, hf8_1, hs56⟩, Nat.lt_succ_self _⟩
     refine c_skip ?_
     refine k_block ?_
     refine k_then ?_
     refine c_plain ?_
     refine x_u 2 [(139, Vi (IntKind.i64.wrap (t98__s98_l58 + 1))), (98, Vi (IntKind.i64.wrap (t98__s98_l58 + 1)))] ?_
     refine x_end rfl ?_
     have hx := some_inj h
     subst hx
     have hpk : MS w81 [[b5], [b0_8], M] := hms.pick [some 2, some 3, some 4] _ rfl
     have hsu : ∀ x ∈ fl [[b5], [b0_8], M], x ∈ fl [[b76], [b69], [b5], [b0_8], M] := pick_sub [some 2, some 3, some 4] _ rfl
     replace hs_p2 := hs_p2.sub hsu
     replace hs_p1_0_1 := hs_p1_0_1.sub hsu
     replace hs_p1_1 := hs_p1_1.sub hsu
     replace hf8_2 := hf8_2.sub hsu
     replace hs56 := hs56.sub hsu
     replace hms := hpk
     replace hfr : FR w.heap.size [[b5], [b0_8]] := hfr.pick [some 2, some 3] _ rfl
     clear hpk hsu
     exact k_then ⟨(m58, IntKind.i64.wrap (t98__s98_l58 + 1)), ⟨rfl, rfl, rfl, rfl, rfl, rfl, rfl, trivial⟩, ⟨hn58, hev, hms, hfr, hs_p2, hs_p1_0_1, hs_p1_1, hb5, hf8_2, hf8_1, hs56⟩, Nat.lt_succ_self _⟩
   refine c_exit ?_
   refine k_then_exit ?_
   have hx := some_inj h
   subst hx
   have hy := some_inj hn58
   subst hy
   replace h := h58
   refine k_then_exit ?_
   refine k_block_in ?_
   refine k_block ?_
   refine k_then ?_
   refine c_norm [(2, Vl a_p2 p2 c_p2), (4, Vp b5 0), (7, Vp b0_8 0), (8, Vi i_s8_l11)] ⟨rfl, rfl, rfl, rfl, trivial⟩ (fun J => ?_)
   refine c_plain ?_
   refine x_u 3 [(29, Vi i_s8_l11), (30, Vi (IntKind.i64.wrap (i_s8_l11 + 1))), (8, Vi (IntKind.i64.wrap (i_s8_l11 + 1)))] ?_
   refine x_end rfl ?_
   have hx := some_inj h
   subst hx
   exact k_then ⟨(m11, x53.2, IntKind.i64.wrap (i_s8_l11 + 1)), ⟨rfl, rfl, rfl, rfl, trivial⟩, ⟨hn11, hev, hms, hfr, hs_p2, hs_p1_0_1, hs_p1_1, hb5, hf8_2, hf8_1⟩, Nat.lt_succ_self _⟩
 refine c_exit ?_
 refine k_then_exit ?_
 have hx := some_inj h
 subst hx
 have hy := some_inj hn11
 subst hy
 replace h := h11
 refine k_then_exit ?_
 refine k_block_in ?_
 refine k_then ?_
 refine c_norm [] trivial (fun J => ?_)
 refine c_sp ?_
 obtain ⟨x87, hx, h⟩ := bind_some h
 have hcall := law15_sane_w _ wl11 hx
 refine x_call 17 #[] #[] [] _ rfl rfl rfl rfl hcall ?_
 rintro v w88 ⟨rfl, he88⟩
 clear hcall hx
 refine inl1 ?_
 have hst := Stp.ext (ls := [[b5], [b0_8], M]) he88
 replace hb5 := he88.box hb5 nn
 replace hs_p1_0_1 := hs_p1_0_1.step hst
 replace hs_p1_1 := hs_p1_1.step hst
 replace hf8_1 := he88.box hf8_1 nn
 replace hf8_2 := hf8_2.step hst
 replace hms := hms.ev he88
 replace hev := hev.ext he88
 refine x_u 1 [(6, .bool x87)] ?_
 refine x_ek ?_
 refine c_ret ?_
 refine r_ret (r_vals [.bool x87] ⟨rfl, trivial⟩ ?_)
 have hx := some_inj h
 subst hx
 have hmr : MS w88 [M] := hms.pick [some 2] _ rfl
 have hsu : ∀ x ∈ fl [M], x ∈ fl [[b5], [b0_8], M] := pick_sub [some 2] _ rfl
 exact ⟨rfl, hev⟩
end Go.Proofs.Ytcignnfdpgeogaa
