/- Walks, printed by program: each function returns what the partial function of the same name returns. Conditions: those of each theorem. -/
import Derived.Test.YtcignnfdpgeogaaGT
import Derived.Test.YtcignnfdpgeogaaGcertificate
import Derived.Test.YtcignnfdpgeogaaGgen
import Derived.Test.YtcignnfdpgeogaaGjob
import Derived.Test.YtcignnfdpgeogaaGlaw15sane
import Derived.Test.YtcignnfdpgeogaaGlaw15spoil
import Derived.Test.YtcignnfdpgeogaaGleastcode
import Derived.Test.YtcignnfdpgeogaaGrollin
set_option linter.unusedVariables false
set_option linter.unusedSimpArgs false
set_option maxRecDepth 4000
namespace Go.Proofs.Ytcignnfdpgeogaa
open Go Go.V Go.Proofs
def law15_CertificateProves_L25 (x2 : ((List Int) × Int)) (x6 : ((List (Int × Int × Int × Int)) × Int) × Int) (s : Int × Int × (List Int) × (List Int) × Int) : Option (Step (Int × Int × (List Int) × (List Int) × Int) (Unit ⊕ Unit)) :=
match s with
| (e4_l25_1, e17_l25_0, d14_l25, d15_l25, i_s7_l25) =>
(if (decide (i_s7_l25 < 4)) = true then
((certificate_Check x6.1.1 x6.1.2 e17_l25_0 d14_l25 d15_l25).bind fun x27 =>
(if (x27 == 0) = true then
((rollin_Run x6.1.1 x6.1.2 e17_l25_0 d14_l25).bind fun x29 =>
((job_Sorted x6.1.1 x6.1.2 x29.1.1).bind fun x35 =>
((leastcode_Least x6.1.1 x6.1.2).bind fun x37 =>
(if (x29.2 != 0) = true then
some (.done (.inl ()))
else
(if (x35.2 != 0) = true then
some (.done (.inl ()))
else
(if (!x35.1) = true then
some (.done (.inl ()))
else
(if (x37.2 != 0) = true then
some (.done (.inl ()))
else
(if (x37.1.1 != e17_l25_0) = true then
some (.done (.inl ()))
else
((law15_spoil x2.1 e4_l25_1 e17_l25_0 d14_l25 d15_l25).bind fun x43 =>
some (.next (x43.2, x43.1.1.1, x43.1.1.2, x43.1.2, IntKind.i64.wrap (i_s7_l25 + 1))))))))))))
else
((law15_spoil x2.1 e4_l25_1 e17_l25_0 d14_l25 d15_l25).bind fun x48 =>
some (.next (x48.2, x48.1.1.1, x48.1.1.2, x48.1.2, IntKind.i64.wrap (i_s7_l25 + 1))))))
else
some (.done (.inr ())))

def law15_CertificateProves (p0 : List Int) : Option Bool :=
((gen_New p0).bind fun x2 =>
((gen_Maker_Job x2.1 x2.2 12).bind fun x6 =>
((certificate_Make x6.1.1 x6.1.2).bind fun x12 =>
(if (x12.2 != 0) = true then
(if (x12.2 == 15) = true then
((law15_sane).bind fun x20 =>
some x20)
else
some false)
else
((certificate_Check x6.1.1 x6.1.2 x12.1.1.1 x12.1.1.2 x12.1.2).bind fun x23 =>
(if (x23 != 0) = true then
some false
else
((loop (law15_CertificateProves_L25 x2 x6) (x6.2, x12.1.1.1, x12.1.1.2, x12.1.2, 0)).bind fun d => match d with
| (.inl _) => some false
| (.inr _) => ((law15_sane).bind fun x53 =>
some x53))))))))

theorem law15_CertificateProves_w (a_p0 : Option Addr) (c_p0 : Nat) (p0 : List Int) (r : Bool) (w : World) (M : List Nat) (hms : MS w [M]) (hs_p0 : SlR (eInt .i64) w (fl [M]) a_p0 c_p0 p0) (h : law15_CertificateProves p0 = some r) : CallVC Try.prog 7 [.slice a_p0 (p0).length c_p0] w fun v w' => v = .bool r ∧ Ev [] w w' := by
 refine calls_vc hmx Try.func7 (by kernel_rfl) rfl (rs := [.tmp 2]) rfl (by kernel_rfl) (args := [.slice a_p0 (p0).length c_p0]) rfl ?_
 have hev : Ev [] w w := Ev.refl _ _
 have hfr : FR w.heap.size [] := FR.nil _
 refine c_sp ?_
 refine x_pure 1 [(2, .bool false)] _ _ _ (by kernel_rfl) ?_
 refine x_ek ?_
 refine c_sp ?_
 refine x_pure 1 [(14, .slice a_p0 (p0).length c_p0)] _ _ _ (by kernel_rfl) ?_
 obtain ⟨x2, hx, h⟩ := bind_some h
 have hpk : MS w ([] ++ [M]) := hms.pick [some 0] _ rfl
 have hsb0 : ∀ x ∈ fl ([] ++ [M]), x ∈ fl [M] := pick_sub [some 0] _ rfl
 have hsb : ∀ x ∈ fl ([] ++ [(fl [M])]), x ∈ fl [M] := fun x hx => hsb0 x (fl_unfold x hx)
 have hcall := gen_New_w a_p0 c_p0 p0 _ w (fl [M]) (MS.fold (P := []) hpk) (hs_p0.sub hsb) hx
 refine x_call 8 #[] #[] [.slice a_p0 (p0).length c_p0] _ rfl rfl rfl rfl hcall ?_
 rintro v w3 ⟨b0_3, a1_3, c1_3, rfl, he3, hmn3, hfn3, hf3_1, hf3_2⟩
 clear hcall hx
 refine inl1 ?_
 have hpk2 : MS w ([] ++ [M]) := hms.pick [some 0] _ rfl
 have hsb2 : ∀ x ∈ fl ([] ++ [M]), x ∈ fl [M] := pick_sub [some 0] _ rfl
 have hst0 := Stp.call (LS := [M]) (res := [[b0_3]]) (par := []) (R := [M]) he3 (fun b hb => hsb2 b (fl_left' (P := []) b hb)) hfn3 (NP.init _ _) (fun x hx => hsb2 x (fl_right' (P := []) x hx))
 have hsn : ∀ x ∈ fl [[b0_3], M], x ∈ fl ([[b0_3]] ++ ([] ++ [M])) := pick_sub [some 0, some 1] _ rfl
 have hst := hst0.res hsn
 replace hs_p0 := hs_p0.step hst
 replace hms : MS w3 [[b0_3], M] := (MS.call (P := []) (R := [M]) (res := [[b0_3]]) (par := []) hpk2 he3 hmn3 hfn3 (NP.init _ _)).pick [some 0, some 1] _ rfl
 have hfr2 : FR w.heap.size [[b0_3]] := (FR.cons (fun b hb => Nat.le_trans hev.size (hfn3.at 0 rfl b hb)) (FR.nil _))
 replace hev := hev.ext he3
 replace hfr := hfr2
 clear hfr2
 have hsp : ∀ x ∈ fl [[b0_3], M], x ∈ fl ([[b0_3]] ++ ([] ++ [(fl [M])])) := fun x hx => fl_tot (res := [[b0_3]]) (par := []) (R := [M]) x (hsn x hx)
 replace hf3_2 := hf3_2.sub hsp
 clear hpk hsb hsb0 hpk2 hsb2 hst0 hsn hst
 refine x_pure 1 [(3, Vp b0_3 0)] _ _ _ (by kernel_rfl) ?_
 refine x_ek ?_
 refine c_sp ?_
 refine x_pure 1 [(16, Vp b0_3 0)] _ _ _ (by kernel_rfl) ?_
 obtain ⟨x6, hx, h⟩ := bind_some h
 have hpk : MS w3 ([[b0_3]] ++ [M]) := hms.pick [some 0, some 1] _ rfl
 have hsb0 : ∀ x ∈ fl ([[b0_3]] ++ [M]), x ∈ fl [[b0_3], M] := pick_sub [some 0, some 1] _ rfl
 have hsb : ∀ x ∈ fl ([[b0_3]] ++ [(fl [M])]), x ∈ fl [[b0_3], M] := fun x hx => hsb0 x (fl_unfold x hx)
 have hcall := gen_Maker_Job_w b0_3 a1_3 c1_3 x2.1 x2.2 12 _ w3 (fl [M]) (hpk.fold (P := [[b0_3]])) (hf3_2.sub hsb) hf3_1 hx
 refine x_call 9 #[] #[] [Vp b0_3 0, Vi 12] _ rfl rfl rfl rfl hcall ?_
 rintro v w7 ⟨a0_7, c0_7, rfl, he7, hp7_0, hmn7, hfn7, hf7_1⟩
 clear hcall hx
 refine inl1 ?_
 have hpk2 : MS w3 ([[b0_3]] ++ [M]) := hms.pick [some 0, some 1] _ rfl
 have hsb2 : ∀ x ∈ fl ([[b0_3]] ++ [M]), x ∈ fl [[b0_3], M] := pick_sub [some 0, some 1] _ rfl
 have hst0 := Stp.call (LS := [[b0_3], M]) (res := [blk a0_7]) (par := [[b0_3]]) (R := [M]) he7 (fun b hb => hsb2 b (fl_left' (P := [[b0_3]]) b hb)) hfn7 (NP.init _ _) (fun x hx => hsb2 x (fl_right' (P := [[b0_3]]) x hx))
 have hsn : ∀ x ∈ fl [blk a0_7, [b0_3], M], x ∈ fl ([blk a0_7] ++ ([[b0_3]] ++ [M])) := pick_sub [some 0, some 1, some 2] _ rfl
 have hst := hst0.res hsn
 replace hf3_2 := hf3_2.step hst
 replace hms : MS w7 [blk a0_7, [b0_3], M] := (MS.call (P := [[b0_3]]) (R := [M]) (res := [blk a0_7]) (par := [[b0_3]]) hpk2 he7 hmn7 hfn7 (NP.init _ _)).pick [some 0, some 1, some 2] _ rfl
 have hPf : ∀ b ∈ fl [[b0_3]], w.heap.size ≤ b := FR.mem (ls := [[b0_3]]) (hfr.pick [some 0] _ rfl)
 have hfr2 : FR w.heap.size [blk a0_7, [b0_3]] := (FR.cons (fun b hb => Nat.le_trans hev.size (hfn7.at 0 rfl b hb)) (FR.cons (hfr.at 0 rfl) (FR.nil _)))
 replace hev := hev.then he7 (fun b hb => .inr (hPf b hb))
 replace hfr := hfr2
 clear hfr2
 replace hf3_1 := hp7_0
 replace hf7_1 := OwnS.plain (M' := fl [blk a0_7, [b0_3], M]) (plain_prod (plain_int _) (plain_prod (plain_int _) (plain_prod (plain_int _) (plain_int _)))) hf7_1
 clear hpk hsb hsb0 hpk2 hsb2 hst0 hsn hst
 have hpk : MS w7 [[b0_3], M] := hms.pick [some 1, some 2] _ rfl
 have hsu : ∀ x ∈ fl [[b0_3], M], x ∈ fl [blk a0_7, [b0_3], M] := pick_sub [some 1, some 2] _ rfl
 replace hf3_2 := hf3_2.sub hsu
 replace hf7_1 := hf7_1.ro hsu (pick_out hms 0 rfl [some 1, some 2] [[b0_3], M] rfl rfl)
 replace hms := hpk
 replace hfr : FR w.heap.size [[b0_3]] := hfr.pick [some 1] _ rfl
 clear hpk hsu
 refine x_alloc (z := .agg #[.slice none 0 0, Vi 0]) rfl rfl (by kernel_rfl) (fun b9 w9 hq9 hb9 he9 hz9 => ?_)
 replace hb9 : w9.heap[b9]? = some (.cells #[.slice none 0 0, Vi 0] 25 (0, 0)) := hb9
 refine inl1 ?_
 have hst := Stp.box (ls := [[b0_3], M]) he9 hq9
 replace hf3_1 := he9.box hf3_1 nn
 replace hf3_2 := hf3_2.step hst
 replace hf7_1 := hf7_1.step hst
 replace hms := hms.box he9 hq9 hb9
 replace hfr := hfr.box hev.size hq9
 replace hev := hev.ext he9
 obtain ⟨w11, hr11, hb11, he11⟩ := store_boxagg 0 [.slice a0_7 (x6.1.1).length c0_7, Vi x6.1.2] #[.slice a0_7 (x6.1.1).length c0_7, Vi x6.1.2] tagg25 hb9 rfl rfl rfl
 refine x_store w11 (xv := Vp b9 0) (yv := .agg #[.slice a0_7 (x6.1.1).length c0_7, Vi x6.1.2]) rfl rfl rfl rfl hr11 ?_
 refine inl1 ?_
 have hst := Stp.ev' (ls := [[b9], [b0_3], M]) he11 (mem_flat 0 rfl)
 replace hf3_1 := he11.box hf3_1 (hms.apart 1 0 rfl rfl rfl _ mem1)
 replace hf3_2 := hf3_2.step hst
 replace hf7_1 := hf7_1.step hst
 replace hms := hms.ev he11
 replace hev := hev.then he11 (fun b hb => .inr (hfr.at 0 rfl b hb))
 replace hb9 := hb11
 refine x_ek ?_
 refine c_sp ?_
 refine x_load (xv := Vp b9 0) (.agg #[.slice a0_7 (x6.1.1).length c0_7, Vi x6.1.2]) rfl rfl rfl (reads_boxagg 0 [.slice a0_7 (x6.1.1).length c0_7, Vi x6.1.2] tagg25 hb9 nn rfl) ?_
 obtain ⟨x12, hx, h⟩ := bind_some h
 have hpk : MS w11 ([] ++ [[b9], [b0_3], M]) := hms.pick [some 0, some 1, some 2] _ rfl
 have hsb0 : ∀ x ∈ fl ([] ++ [[b9], [b0_3], M]), x ∈ fl [[b9], [b0_3], M] := pick_sub [some 0, some 1, some 2] _ rfl
 have hsb : ∀ x ∈ fl ([] ++ [(fl [[b9], [b0_3], M])]), x ∈ fl [[b9], [b0_3], M] := fun x hx => hsb0 x (fl_unfold x hx)
 have hcall := certificate_Make_w a0_7 c0_7 x6.1.1 x6.1.2 _ w11 (fl [[b9], [b0_3], M]) (MS.fold (P := []) hpk) (hf7_1.sub hsb) hx
 refine x_call 10 #[] #[] [.agg #[.slice a0_7 (x6.1.1).length c0_7, Vi x6.1.2]] _ rfl rfl rfl rfl hcall ?_
 rintro v w13 ⟨a0_13, c0_13, a2_13, c2_13, rfl, he13, hmn13, hfn13, hf13_1, hf13_2⟩
 clear hcall hx
 refine inl1 ?_
 have hpk2 : MS w11 ([] ++ [[b9], [b0_3], M]) := hms.pick [some 0, some 1, some 2] _ rfl
 have hsb2 : ∀ x ∈ fl ([] ++ [[b9], [b0_3], M]), x ∈ fl [[b9], [b0_3], M] := pick_sub [some 0, some 1, some 2] _ rfl
 have hst0 := Stp.call (LS := [[b9], [b0_3], M]) (res := [blk a0_13, blk a2_13]) (par := []) (R := [[b9], [b0_3], M]) he13 (fun b hb => hsb2 b (fl_left' (P := []) b hb)) hfn13 (NP.init _ _) (fun x hx => hsb2 x (fl_right' (P := []) x hx))
 have hsn : ∀ x ∈ fl [blk a0_13, blk a2_13, [b9], [b0_3], M], x ∈ fl ([blk a0_13, blk a2_13] ++ ([] ++ [[b9], [b0_3], M])) := pick_sub [some 0, some 1, some 2, some 3, some 4] _ rfl
 have hst := hst0.res hsn
 replace hf3_1 := he13.box hf3_1 ((MS.outs (P := []) hpk2 1 rfl) _ mem1)
 replace hf3_2 := hf3_2.step hst
 replace hf7_1 := hf7_1.step hst
 replace hb9 := he13.box hb9 ((MS.outs (P := []) hpk2 0 rfl) _ mem1)
 replace hms : MS w13 [blk a0_13, blk a2_13, [b9], [b0_3], M] := (MS.call (P := []) (R := [[b9], [b0_3], M]) (res := [blk a0_13, blk a2_13]) (par := []) hpk2 he13 hmn13 hfn13 (NP.init _ _)).pick [some 0, some 1, some 2, some 3, some 4] _ rfl
 have hfr2 : FR w.heap.size [blk a0_13, blk a2_13, [b9], [b0_3]] := (FR.cons (fun b hb => Nat.le_trans hev.size (hfn13.at 0 rfl b hb)) (FR.cons (fun b hb => Nat.le_trans hev.size (hfn13.at 1 rfl b hb)) (FR.cons (hfr.at 0 rfl) (FR.cons (hfr.at 1 rfl) (FR.nil _)))))
 replace hev := hev.ext he13
 replace hfr := hfr2
 clear hfr2
 replace hf13_1 := OwnS.plain (M' := fl [blk a0_13, blk a2_13, [b9], [b0_3], M]) (plain_int _) hf13_1
 replace hf13_2 := OwnS.plain (M' := fl [blk a0_13, blk a2_13, [b9], [b0_3], M]) (plain_int _) hf13_2
 clear hpk hsb hsb0 hpk2 hsb2 hst0 hsn hst
 have hpk : MS w13 [blk a2_13, [b9], [b0_3], M] := hms.pick [some 1, some 2, some 3, some 4] _ rfl
 have hsu : ∀ x ∈ fl [blk a2_13, [b9], [b0_3], M], x ∈ fl [blk a0_13, blk a2_13, [b9], [b0_3], M] := pick_sub [some 1, some 2, some 3, some 4] _ rfl
 replace hf3_2 := hf3_2.sub hsu
 replace hf7_1 := hf7_1.sub hsu
 replace hf13_1 := hf13_1.ro hsu (pick_out hms 0 rfl [some 1, some 2, some 3, some 4] [blk a2_13, [b9], [b0_3], M] rfl rfl)
 replace hf13_2 := hf13_2.sub hsu
 replace hms := hpk
 replace hfr : FR w.heap.size [blk a2_13, [b9], [b0_3]] := hfr.pick [some 1, some 2, some 3] _ rfl
 clear hpk hsu
 have hpk : MS w13 [[b9], [b0_3], M] := hms.pick [some 1, some 2, some 3] _ rfl
 have hsu : ∀ x ∈ fl [[b9], [b0_3], M], x ∈ fl [blk a2_13, [b9], [b0_3], M] := pick_sub [some 1, some 2, some 3] _ rfl
 replace hf3_2 := hf3_2.sub hsu
 replace hf7_1 := hf7_1.sub hsu
 replace hf13_1 := hf13_1.sub hsu
 replace hf13_2 := hf13_2.ro hsu (pick_out hms 0 rfl [some 1, some 2, some 3] [[b9], [b0_3], M] rfl rfl)
 replace hms := hpk
 replace hfr : FR w.heap.size [[b9], [b0_3]] := hfr.pick [some 1, some 2] _ rfl
 clear hpk hsu
 refine x_pure 3 [(18, .tuple #[.agg #[Vi x12.1.1.1, .slice a0_13 (x12.1.1.2).length c0_13, .slice a2_13 (x12.1.2).length c2_13], Vi x12.2]), (21, .agg #[Vi x12.1.1.1, .slice a0_13 (x12.1.1.2).length c0_13, .slice a2_13 (x12.1.2).length c2_13]), (22, Vi x12.2)] _ _ _ (by kernel_rfl) ?_
 refine x_alloc (z := .agg #[Vi 0, .slice none 0 0, .slice none 0 0]) rfl rfl (by kernel_rfl) (fun b16 w16 hq16 hb16 he16 hz16 => ?_)
 replace hb16 : w16.heap[b16]? = some (.cells #[Vi 0, .slice none 0 0, .slice none 0 0] 29 (0, 0)) := hb16
 refine inl1 ?_
 have hst := Stp.box (ls := [[b9], [b0_3], M]) he16 hq16
 replace hf3_1 := he16.box hf3_1 nn
 replace hf3_2 := hf3_2.step hst
 replace hf7_1 := hf7_1.step hst
 replace hb9 := he16.box hb9 nn
 replace hf13_1 := hf13_1.step hst
 replace hf13_2 := hf13_2.step hst
 replace hms := hms.box he16 hq16 hb16
 replace hfr := hfr.box hev.size hq16
 replace hev := hev.ext he16
 obtain ⟨w18, hr18, hb18, he18⟩ := store_boxagg 0 [Vi x12.1.1.1, .slice a0_13 (x12.1.1.2).length c0_13, .slice a2_13 (x12.1.2).length c2_13] #[Vi x12.1.1.1, .slice a0_13 (x12.1.1.2).length c0_13, .slice a2_13 (x12.1.2).length c2_13] tagg29 hb16 rfl rfl rfl
 refine x_store w18 (xv := Vp b16 0) (yv := .agg #[Vi x12.1.1.1, .slice a0_13 (x12.1.1.2).length c0_13, .slice a2_13 (x12.1.2).length c2_13]) rfl rfl rfl rfl hr18 ?_
 refine inl1 ?_
 have hst := Stp.ev' (ls := [[b16], [b9], [b0_3], M]) he18 (mem_flat 0 rfl)
 replace hf3_1 := he18.box hf3_1 (hms.apart 2 0 rfl rfl rfl _ mem1)
 replace hf3_2 := hf3_2.step hst
 replace hf7_1 := hf7_1.step hst
 replace hb9 := he18.box hb9 (hms.apart 1 0 rfl rfl rfl _ mem1)
 replace hf13_1 := hf13_1.step hst
 replace hf13_2 := hf13_2.step hst
 replace hms := hms.ev he18
 replace hev := hev.then he18 (fun b hb => .inr (hfr.at 0 rfl b hb))
 replace hb16 := hb18
 refine x_pure 1 [(6, Vi x12.2)] _ _ _ (by kernel_rfl) ?_
 refine x_ek ?_
 refine c_norm [(3, Vp b0_3 0), (4, Vp b9 0), (5, Vp b16 0), (6, Vi x12.2)] ⟨rfl, rfl, rfl, rfl, trivial⟩ (fun J => ?_)
 refine c_seq ?_
 refine c_sp ?_
 refine x_pure 2 [(23, Vi x12.2), (24, .bool (x12.2 != 0))] _ _ _ (by kernel_rfl) ?_
 refine x_ek ?_
 refine c_cond (x12.2 != 0) rfl (fun hb => ?_) (fun hb => ?_)
 · replace h := ite_t hb h
   refine c_sp ?_
   refine x_pure 3 [(25, Vi x12.2), (26, .bool (x12.2 == 15)), (27, .bool (x12.2 == 15))] _ _ _ (by kernel_rfl) ?_
   refine x_split 27 (x12.2 == 15) rfl (fun hb => ?_) (fun hb => ?_)
   · replace h := ite_t hb h
     obtain ⟨x20, hx, h⟩ := bind_some h
     have hcall := law15_sane_w _ w18 hx
     refine x_call 17 #[] #[] [] _ rfl rfl rfl rfl hcall ?_
     rintro v w21 ⟨rfl, he21⟩
     clear hcall hx
     refine inl1 ?_
     have hst := Stp.ext (ls := [[b16], [b9], [b0_3], M]) he21
     replace hf3_1 := he21.box hf3_1 nn
     replace hf3_2 := hf3_2.step hst
     replace hf7_1 := hf7_1.step hst
     replace hb9 := he21.box hb9 nn
     replace hf13_1 := hf13_1.step hst
     replace hf13_2 := hf13_2.step hst
     replace hb16 := he21.box hb16 nn
     replace hms := hms.ev he21
     replace hev := hev.ext he21
     refine x_pure 2 [(29, .bool x20), (2, .bool x20)] _ _ _ (by kernel_rfl) ?_
     refine x_ek ?_
     refine c_ret ?_
     refine k_then_ret ?_
     refine r_ret (r_vals [.bool x20] ⟨rfl, trivial⟩ ?_)
     have hx := some_inj h
     subst hx
     have hmr : MS w21 [M] := hms.pick [some 3] _ rfl
     have hsu : ∀ x ∈ fl [M], x ∈ fl [[b16], [b9], [b0_3], M] := pick_sub [some 3] _ rfl
     exact ⟨rfl, hev⟩
   replace h := ite_f hb h
   refine x_pure 3 [(28, undef), (29, .bool false), (2, .bool false)] _ _ _ (by kernel_rfl) ?_
   refine x_ek ?_
   refine c_ret ?_
   refine k_then_ret ?_
   refine r_ret (r_vals [.bool false] ⟨rfl, trivial⟩ ?_)
   have hx := some_inj h
   subst hx
   have hmr : MS w18 [M] := hms.pick [some 3] _ rfl
   have hsu : ∀ x ∈ fl [M], x ∈ fl [[b16], [b9], [b0_3], M] := pick_sub [some 3] _ rfl
   exact ⟨rfl, hev⟩
 replace h := ite_f hb h
 refine c_skip ?_
 refine k_then ?_
 refine c_seq ?_
 refine c_sp ?_
 refine x_load (xv := Vp b9 0) (.agg #[.slice a0_7 (x6.1.1).length c0_7, Vi x6.1.2]) rfl rfl rfl (reads_boxagg 0 [.slice a0_7 (x6.1.1).length c0_7, Vi x6.1.2] tagg25 hb9 nn rfl) ?_
 refine x_load (xv := Vp b16 0) (.agg #[Vi x12.1.1.1, .slice a0_13 (x12.1.1.2).length c0_13, .slice a2_13 (x12.1.2).length c2_13]) rfl rfl rfl (reads_boxagg 0 [Vi x12.1.1.1, .slice a0_13 (x12.1.1.2).length c0_13, .slice a2_13 (x12.1.2).length c2_13] tagg29 hb16 nn rfl) ?_
 obtain ⟨x23, hx, h⟩ := bind_some h
 have hpk : MS w18 ([] ++ [[b16], [b9], [b0_3], M]) := hms.pick [some 0, some 1, some 2, some 3] _ rfl
 have hsb0 : ∀ x ∈ fl ([] ++ [[b16], [b9], [b0_3], M]), x ∈ fl [[b16], [b9], [b0_3], M] := pick_sub [some 0, some 1, some 2, some 3] _ rfl
 have hsb : ∀ x ∈ fl ([] ++ [(fl [[b16], [b9], [b0_3], M])]), x ∈ fl [[b16], [b9], [b0_3], M] := fun x hx => hsb0 x (fl_unfold x hx)
 have hcall := certificate_Check_w a0_7 c0_7 x6.1.1 x6.1.2 x12.1.1.1 a0_13 c0_13 x12.1.1.2 a2_13 c2_13 x12.1.2 _ w18 (fl [[b16], [b9], [b0_3], M]) (MS.fold (P := []) hpk) (hf7_1.sub hsb) (hf13_1.sub hsb) (hf13_2.sub hsb) hx
 refine x_call 14 #[] #[] [.agg #[.slice a0_7 (x6.1.1).length c0_7, Vi x6.1.2], .agg #[Vi x12.1.1.1, .slice a0_13 (x12.1.1.2).length c0_13, .slice a2_13 (x12.1.2).length c2_13]] _ rfl rfl rfl rfl hcall ?_
 rintro v w24 ⟨rfl, he24⟩
 clear hcall hx
 refine inl1 ?_
 have hst := Stp.ext (ls := [[b16], [b9], [b0_3], M]) he24
 replace hf3_1 := he24.box hf3_1 nn
 replace hf3_2 := hf3_2.step hst
 replace hf7_1 := hf7_1.step hst
 replace hb9 := he24.box hb9 nn
 replace hf13_1 := hf13_1.step hst
 replace hf13_2 := hf13_2.step hst
 replace hb16 := he24.box hb16 nn
 replace hms := hms.ev he24
 replace hev := hev.ext he24
 clear hpk hsb hsb0
 refine x_pure 1 [(33, .bool (x23 != 0))] _ _ _ (by kernel_rfl) ?_
 refine x_ek ?_
 refine c_cond (x23 != 0) rfl (fun hb => ?_) (fun hb => ?_)
 · replace h := ite_t hb h
   refine c_sp ?_
   refine x_pure 1 [(2, .bool false)] _ _ _ (by kernel_rfl) ?_
   refine x_ek ?_
   refine c_ret ?_
   refine k_then_ret ?_
   refine r_ret (r_vals [.bool false] ⟨rfl, trivial⟩ ?_)
   have hx := some_inj h
   subst hx
   have hmr : MS w24 [M] := hms.pick [some 3] _ rfl
   have hsu : ∀ x ∈ fl [M], x ∈ fl [[b16], [b9], [b0_3], M] := pick_sub [some 3] _ rfl
   exact ⟨rfl, hev⟩
 replace h := ite_f hb h
 refine c_skip ?_
 refine k_then ?_
 refine c_seq ?_
 refine c_sp ?_
 refine x_pure 1 [(7, Vi 0)] _ _ _ (by kernel_rfl) ?_
 refine x_ek ?_
 refine c_block ?_
 have hpk : MS w24 [[b0_3], [b9], [b16], M] := hms.pick [some 2, some 1, some 0, some 3] _ rfl
 have hsu : ∀ x ∈ fl [[b0_3], [b9], [b16], M], x ∈ fl [[b16], [b9], [b0_3], M] := pick_sub [some 2, some 1, some 0, some 3] _ rfl
 replace hf3_2 := hf3_2.sub hsu
 replace hf7_1 := hf7_1.sub hsu
 replace hf13_1 := hf13_1.sub hsu
 replace hf13_2 := hf13_2.sub hsu
 replace hms := hpk
 replace hfr : FR w.heap.size [[b0_3], [b9], [b16]] := hfr.pick [some 2, some 1, some 0] _ rfl
 clear hpk hsu
 obtain ⟨d25, hd25, h25⟩ := bind_some h
 obtain ⟨m25, hd25⟩ := loop_some hd25
 refine c_loop (loop_rule hmx (σ := Nat × Int × Int × (List Int) × (List Int) × Int × Option Addr × Nat × Option Addr × Nat) (fun s => match s with | (_, e4_l25_1, e17_l25_0, d14_l25, d15_l25, i_s7_l25, a14_l25, c14_l25, a15_l25, c15_l25) => [(3, Vp b0_3 0), (4, Vp b9 0), (5, Vp b16 0), (7, Vi i_s7_l25)]) (fun s w' => match s with | (m, e4_l25_1, e17_l25_0, d14_l25, d15_l25, i_s7_l25, a14_l25, c14_l25, a15_l25, c15_l25) => loopN (law15_CertificateProves_L25 x2 x6) m (e4_l25_1, e17_l25_0, d14_l25, d15_l25, i_s7_l25) = some d25 ∧ Ev [] w w' ∧ MS w' [[b0_3], [b9], [b16], M] ∧ FR w.heap.size [[b0_3], [b9], [b16]] ∧ SlR (eInt .i64) w' (fl [[b0_3], [b9], [b16], M]) a1_3 c1_3 x2.1 ∧ w'.heap[b0_3]? = some (.cells #[.slice a1_3 (x2.1).length c1_3, Vi e4_l25_1] 65 (0, 0)) ∧ SlR (eIt4) w' (fl [[b0_3], [b9], [b16], M]) a0_7 c0_7 x6.1.1 ∧ w'.heap[b9]? = some (.cells #[.slice a0_7 (x6.1.1).length c0_7, Vi x6.1.2] 25 (0, 0)) ∧ SlR (eInt .i64) w' (fl [[b0_3], [b9], [b16], M]) a14_l25 c14_l25 d14_l25 ∧ SlR (eInt .i64) w' (fl [[b0_3], [b9], [b16], M]) a15_l25 c15_l25 d15_l25 ∧ w'.heap[b16]? = some (.cells #[Vi e17_l25_0, .slice a14_l25 (d14_l25).length c14_l25, .slice a15_l25 (d15_l25).length c15_l25] 29 (0, 0))) (fun s => s.1) (m25, x6.2, x12.1.1.1, x12.1.1.2, x12.1.2, 0, a0_13, c0_13, a2_13, c2_13) ⟨rfl, rfl, rfl, rfl, trivial⟩ ⟨hd25, hev, hms, hfr, hf3_2, hf3_1, hf7_1, hb9, hf13_1, hf13_2, hb16⟩ ?_)
 rintro ⟨m25, e4_l25_1, e17_l25_0, d14_l25, d15_l25, i_s7_l25, a14_l25, c14_l25, a15_l25, c15_l25⟩ J wl25 ⟨hn25, hev, hms, hfr, hf3_2, hf3_1, hf7_1, hb9, hj14_l25, hj15_l25, hb16⟩
 rcases m25 with _ | m25
 · exact (loopN_zero hn25).elim
 obtain ⟨t25, h, hn25⟩ := bind_some hn25
 refine c_seq ?_
 refine c_sp ?_
 refine x_pure 2 [(34, Vi i_s7_l25), (35, .bool (decide (i_s7_l25 < 4)))] _ _ _ (by kernel_rfl) ?_
 refine x_ek ?_
 refine c_norm [(3, Vp b0_3 0), (4, Vp b9 0), (5, Vp b16 0), (7, Vi i_s7_l25), (35, .bool (decide (i_s7_l25 < 4)))] ⟨rfl, rfl, rfl, rfl, rfl, trivial⟩ (fun J => ?_)
 refine c_cond (decide (i_s7_l25 < 4)) rfl (fun hb => ?_) (fun hb => ?_)
 · replace h := ite_t hb h
   refine c_skip ?_
   refine k_then ?_
   refine c_seq ?_
   refine c_block ?_
   refine c_seq ?_
   refine c_sp ?_
   refine x_load (xv := Vp b9 0) (.agg #[.slice a0_7 (x6.1.1).length c0_7, Vi x6.1.2]) rfl rfl rfl (reads_boxagg 0 [.slice a0_7 (x6.1.1).length c0_7, Vi x6.1.2] tagg25 hb9 nn rfl) ?_
   refine x_load (xv := Vp b16 0) (.agg #[Vi e17_l25_0, .slice a14_l25 (d14_l25).length c14_l25, .slice a15_l25 (d15_l25).length c15_l25]) rfl rfl rfl (reads_boxagg 0 [Vi e17_l25_0, .slice a14_l25 (d14_l25).length c14_l25, .slice a15_l25 (d15_l25).length c15_l25] tagg29 hb16 nn rfl) ?_
   obtain ⟨x27, hx, h⟩ := bind_some h
   have hpk : MS wl25 ([] ++ [[b0_3], [b9], [b16], M]) := hms.pick [some 0, some 1, some 2, some 3] _ rfl
   have hsb0 : ∀ x ∈ fl ([] ++ [[b0_3], [b9], [b16], M]), x ∈ fl [[b0_3], [b9], [b16], M] := pick_sub [some 0, some 1, some 2, some 3] _ rfl
   have hsb : ∀ x ∈ fl ([] ++ [(fl [[b0_3], [b9], [b16], M])]), x ∈ fl [[b0_3], [b9], [b16], M] := fun x hx => hsb0 x (fl_unfold x hx)
   have hcall := certificate_Check_w a0_7 c0_7 x6.1.1 x6.1.2 e17_l25_0 a14_l25 c14_l25 d14_l25 a15_l25 c15_l25 d15_l25 _ wl25 (fl [[b0_3], [b9], [b16], M]) (MS.fold (P := []) hpk) (hf7_1.sub hsb) (hj14_l25.sub hsb) (hj15_l25.sub hsb) hx
   refine x_call 14 #[] #[] [.agg #[.slice a0_7 (x6.1.1).length c0_7, Vi x6.1.2], .agg #[Vi e17_l25_0, .slice a14_l25 (d14_l25).length c14_l25, .slice a15_l25 (d15_l25).length c15_l25]] _ rfl rfl rfl rfl hcall ?_
   rintro v w28 ⟨rfl, he28⟩
   clear hcall hx
   refine inl1 ?_
   have hst := Stp.ext (ls := [[b0_3], [b9], [b16], M]) he28
   replace hf3_1 := he28.box hf3_1 nn
   replace hf3_2 := hf3_2.step hst
   replace hb9 := he28.box hb9 nn
   replace hf7_1 := hf7_1.step hst
   replace hb16 := he28.box hb16 nn
   replace hj14_l25 := hj14_l25.step hst
   replace hj15_l25 := hj15_l25.step hst
   replace hms := hms.ev he28
   replace hev := hev.ext he28
   clear hpk hsb hsb0
   refine x_pure 1 [(41, .bool (x27 == 0))] _ _ _ (by kernel_rfl) ?_
   refine x_ek ?_
   refine c_cond (x27 == 0) rfl (fun hb => ?_) (fun hb => ?_)
   · replace h := ite_t hb h
     refine c_sp ?_
     refine x_load (xv := Vp b9 0) (.agg #[.slice a0_7 (x6.1.1).length c0_7, Vi x6.1.2]) rfl rfl rfl (reads_boxagg 0 [.slice a0_7 (x6.1.1).length c0_7, Vi x6.1.2] tagg25 hb9 nn rfl) ?_
     refine x_fieldAddr (xv := Vp b16 0) (Vp b16 0) rfl rfl rfl (reads_field tfld29_0 _ _) ?_
     refine x_load (xv := Vp b16 0) (.agg #[Vi e17_l25_0, .slice a14_l25 (d14_l25).length c14_l25]) rfl rfl rfl (reads_boxagg 0 [Vi e17_l25_0, .slice a14_l25 (d14_l25).length c14_l25] tagg27 hb16 nn rfl) ?_
     obtain ⟨x29, hx, h⟩ := bind_some h
     have hpk : MS w28 ([] ++ [[b0_3], [b9], [b16], M]) := hms.pick [some 0, some 1, some 2, some 3] _ rfl
     have hsb0 : ∀ x ∈ fl ([] ++ [[b0_3], [b9], [b16], M]), x ∈ fl [[b0_3], [b9], [b16], M] := pick_sub [some 0, some 1, some 2, some 3] _ rfl
     have hsb : ∀ x ∈ fl ([] ++ [(fl [[b0_3], [b9], [b16], M])]), x ∈ fl [[b0_3], [b9], [b16], M] := fun x hx => hsb0 x (fl_unfold x hx)
     have hcall := rollin_Run_w a0_7 c0_7 x6.1.1 x6.1.2 e17_l25_0 a14_l25 c14_l25 d14_l25 _ w28 (fl [[b0_3], [b9], [b16], M]) (MS.fold (P := []) hpk) (hf7_1.sub hsb) (hj14_l25.sub hsb) hx
     refine x_call 27 #[] #[] [.agg #[.slice a0_7 (x6.1.1).length c0_7, Vi x6.1.2], .agg #[Vi e17_l25_0, .slice a14_l25 (d14_l25).length c14_l25]] _ rfl rfl rfl rfl hcall ?_
     rintro v w30 ⟨a0_30, c0_30, B2_30, rfl, he30, hmn30, hfn30, hf30_1⟩
     clear hcall hx
     refine inl1 ?_
     have hpk2 : MS w28 ([] ++ [[b0_3], [b9], [b16], M]) := hms.pick [some 0, some 1, some 2, some 3] _ rfl
     have hsb2 : ∀ x ∈ fl ([] ++ [[b0_3], [b9], [b16], M]), x ∈ fl [[b0_3], [b9], [b16], M] := pick_sub [some 0, some 1, some 2, some 3] _ rfl
     have hst0 := Stp.call (LS := [[b0_3], [b9], [b16], M]) (res := [B2_30]) (par := []) (R := [[b0_3], [b9], [b16], M]) he30 (fun b hb => hsb2 b (fl_left' (P := []) b hb)) hfn30 (NP.init _ _) (fun x hx => hsb2 x (fl_right' (P := []) x hx))
     have hsn : ∀ x ∈ fl [B2_30, [b0_3], [b9], [b16], M], x ∈ fl ([B2_30] ++ ([] ++ [[b0_3], [b9], [b16], M])) := pick_sub [some 0, some 1, some 2, some 3, some 4] _ rfl
     have hst := hst0.res hsn
     replace hf3_1 := he30.box hf3_1 ((MS.outs (P := []) hpk2 0 rfl) _ mem1)
     replace hf3_2 := hf3_2.step hst
     replace hb9 := he30.box hb9 ((MS.outs (P := []) hpk2 1 rfl) _ mem1)
     replace hf7_1 := hf7_1.step hst
     replace hb16 := he30.box hb16 ((MS.outs (P := []) hpk2 2 rfl) _ mem1)
     replace hj14_l25 := hj14_l25.step hst
     replace hj15_l25 := hj15_l25.step hst
     replace hms : MS w30 [B2_30, [b0_3], [b9], [b16], M] := (MS.call (P := []) (R := [[b0_3], [b9], [b16], M]) (res := [B2_30]) (par := []) hpk2 he30 hmn30 hfn30 (NP.init _ _)).pick [some 0, some 1, some 2, some 3, some 4] _ rfl
     have hfr2 : FR w.heap.size [B2_30, [b0_3], [b9], [b16]] := (FR.cons (fun b hb => Nat.le_trans hev.size (hfn30.at 0 rfl b hb)) (FR.cons (hfr.at 0 rfl) (FR.cons (hfr.at 1 rfl) (FR.cons (hfr.at 2 rfl) (FR.nil _)))))
     replace hev := hev.ext he30
     replace hfr := hfr2
     clear hfr2
     clear hpk hsb hsb0 hpk2 hsb2 hst0 hsn hst
     have hpk : MS w30 [[b0_3], [b9], [b16], M] := hms.pick [some 1, some 2, some 3, some 4] _ rfl
     have hsu : ∀ x ∈ fl [[b0_3], [b9], [b16], M], x ∈ fl [B2_30, [b0_3], [b9], [b16], M] := pick_sub [some 1, some 2, some 3, some 4] _ rfl
     replace hf3_2 := hf3_2.sub hsu
     replace hf7_1 := hf7_1.sub hsu
     replace hj14_l25 := hj14_l25.sub hsu
     replace hj15_l25 := hj15_l25.sub hsu
     replace hf30_1 := hf30_1.ro (plain_int _) (pick_out hms 0 rfl [some 1, some 2, some 3, some 4] [[b0_3], [b9], [b16], M] rfl rfl)
     replace hms := hpk
     replace hfr : FR w.heap.size [[b0_3], [b9], [b16]] := hfr.pick [some 1, some 2, some 3] _ rfl
     clear hpk hsu
     refine x_pure 3 [(42, .tuple #[.agg #[.slice a0_30 (x29.1.1).length c0_30, Vi x29.1.2], Vi x29.2]), (47, .agg #[.slice a0_30 (x29.1.1).length c0_30, Vi x29.1.2]), (48, Vi x29.2)] _ _ _ (by kernel_rfl) ?_
     refine x_alloc (z := .agg #[.slice none 0 0, Vi 0]) rfl rfl (by kernel_rfl) (fun b32 w32 hq32 hb32 he32 hz32 => ?_)
     replace hb32 : w32.heap[b32]? = some (.cells #[.slice none 0 0, Vi 0] 56 (0, 0)) := hb32
     refine inl1 ?_
     have hst := Stp.box (ls := [[b0_3], [b9], [b16], M]) he32 hq32
     replace hf3_1 := he32.box hf3_1 nn
     replace hf3_2 := hf3_2.step hst
     replace hb9 := he32.box hb9 nn
     replace hf7_1 := hf7_1.step hst
     replace hb16 := he32.box hb16 nn
     replace hj14_l25 := hj14_l25.step hst
     replace hj15_l25 := hj15_l25.step hst
     replace hf30_1 := hf30_1.step hst
     replace hms := hms.box he32 hq32 hb32
     replace hfr := hfr.box hev.size hq32
     replace hev := hev.ext he32
     obtain ⟨w34, hr34, hb34, he34⟩ := store_boxagg 0 [.slice a0_30 (x29.1.1).length c0_30, Vi x29.1.2] #[.slice a0_30 (x29.1.1).length c0_30, Vi x29.1.2] tagg56 hb32 rfl rfl rfl
     refine x_store w34 (xv := Vp b32 0) (yv := .agg #[.slice a0_30 (x29.1.1).length c0_30, Vi x29.1.2]) rfl rfl rfl rfl hr34 ?_
     refine inl1 ?_
     have hst := Stp.ev' (ls := [[b32], [b0_3], [b9], [b16], M]) he34 (mem_flat 0 rfl)
     replace hf3_1 := he34.box hf3_1 (hms.apart 1 0 rfl rfl rfl _ mem1)
     replace hf3_2 := hf3_2.step hst
     replace hb9 := he34.box hb9 (hms.apart 2 0 rfl rfl rfl _ mem1)
     replace hf7_1 := hf7_1.step hst
     replace hb16 := he34.box hb16 (hms.apart 3 0 rfl rfl rfl _ mem1)
     replace hj14_l25 := hj14_l25.step hst
     replace hj15_l25 := hj15_l25.step hst
     replace hf30_1 := hf30_1.step hst
     replace hms := hms.ev he34
     replace hev := hev.then he34 (fun b hb => .inr (hfr.at 0 rfl b hb))
     replace hb32 := hb34
     refine x_pure 1 [(9, Vi x29.2)] _ _ _ (by kernel_rfl) ?_
     refine x_ek ?_
     refine c_norm [(3, Vp b0_3 0), (4, Vp b9 0), (5, Vp b16 0), (7, Vi i_s7_l25), (8, Vp b32 0), (9, Vi x29.2)] ⟨rfl, rfl, rfl, rfl, rfl, rfl, trivial⟩ (fun J => ?_)
     refine c_sp ?_
     refine x_load (xv := Vp b9 0) (.agg #[.slice a0_7 (x6.1.1).length c0_7, Vi x6.1.2]) rfl rfl rfl (reads_boxagg 0 [.slice a0_7 (x6.1.1).length c0_7, Vi x6.1.2] tagg25 hb9 nn rfl) ?_
     refine x_fieldAddr (xv := Vp b32 0) (Vp b32 0) rfl rfl rfl (reads_field tfld56_0 _ _) ?_
     refine x_load (xv := Vp b32 0) (.slice a0_30 (x29.1.1).length c0_30) rfl rfl rfl (reads_box tcell42 hb32 nn 0 _ rfl) ?_
     obtain ⟨x35, hx, h⟩ := bind_some h
     have hpk : MS w34 ([] ++ [[b32], [b0_3], [b9], [b16], M]) := hms.pick [some 0, some 1, some 2, some 3, some 4] _ rfl
     have hsb0 : ∀ x ∈ fl ([] ++ [[b32], [b0_3], [b9], [b16], M]), x ∈ fl [[b32], [b0_3], [b9], [b16], M] := pick_sub [some 0, some 1, some 2, some 3, some 4] _ rfl
     have hsb : ∀ x ∈ fl ([] ++ [(fl [[b32], [b0_3], [b9], [b16], M])]), x ∈ fl [[b32], [b0_3], [b9], [b16], M] := fun x hx => hsb0 x (fl_unfold x hx)
     have hcall := job_Sorted_w a0_7 c0_7 x6.1.1 x6.1.2 a0_30 c0_30 x29.1.1 _ w34 (fl [[b32], [b0_3], [b9], [b16], M]) (MS.fold (P := []) hpk) (hf7_1.sub hsb) (hf30_1.sub hsb) hx
     refine x_call 28 #[] #[] [.agg #[.slice a0_7 (x6.1.1).length c0_7, Vi x6.1.2], .slice a0_30 (x29.1.1).length c0_30] _ rfl rfl rfl rfl hcall ?_
     rintro v w36 ⟨rfl, he36⟩
     clear hcall hx
     refine inl1 ?_
     have hst := Stp.ext (ls := [[b32], [b0_3], [b9], [b16], M]) he36
     replace hf3_1 := he36.box hf3_1 nn
     replace hf3_2 := hf3_2.step hst
     replace hb9 := he36.box hb9 nn
     replace hf7_1 := hf7_1.step hst
     replace hb16 := he36.box hb16 nn
     replace hj14_l25 := hj14_l25.step hst
     replace hj15_l25 := hj15_l25.step hst
     replace hf30_1 := hf30_1.step hst
     replace hb32 := he36.box hb32 nn
     replace hms := hms.ev he36
     replace hev := hev.ext he36
     clear hpk hsb hsb0
     refine x_pure 5 [(49, .tuple #[.bool x35.1, Vi x35.2]), (54, .bool x35.1), (55, Vi x35.2), (10, .bool x35.1), (11, Vi x35.2)] _ _ _ (by kernel_rfl) ?_
     refine x_ek ?_
     refine c_sp ?_
     refine x_load (xv := Vp b9 0) (.agg #[.slice a0_7 (x6.1.1).length c0_7, Vi x6.1.2]) rfl rfl rfl (reads_boxagg 0 [.slice a0_7 (x6.1.1).length c0_7, Vi x6.1.2] tagg25 hb9 nn rfl) ?_
     obtain ⟨x37, hx, h⟩ := bind_some h
     have hpk : MS w36 ([] ++ [[b32], [b0_3], [b9], [b16], M]) := hms.pick [some 0, some 1, some 2, some 3, some 4] _ rfl
     have hsb0 : ∀ x ∈ fl ([] ++ [[b32], [b0_3], [b9], [b16], M]), x ∈ fl [[b32], [b0_3], [b9], [b16], M] := pick_sub [some 0, some 1, some 2, some 3, some 4] _ rfl
     have hsb : ∀ x ∈ fl ([] ++ [(fl [[b32], [b0_3], [b9], [b16], M])]), x ∈ fl [[b32], [b0_3], [b9], [b16], M] := fun x hx => hsb0 x (fl_unfold x hx)
     have hcall := leastcode_Least_w a0_7 c0_7 x6.1.1 x6.1.2 _ w36 (fl [[b32], [b0_3], [b9], [b16], M]) (MS.fold (P := []) hpk) (hf7_1.sub hsb) hx
     refine x_call 29 #[] #[] [.agg #[.slice a0_7 (x6.1.1).length c0_7, Vi x6.1.2]] _ rfl rfl rfl rfl hcall ?_
     rintro v w38 ⟨a0_38, c0_38, rfl, he38, hmn38, hfn38, hf38_1⟩
     clear hcall hx
     refine inl1 ?_
     have hpk2 : MS w36 ([] ++ [[b32], [b0_3], [b9], [b16], M]) := hms.pick [some 0, some 1, some 2, some 3, some 4] _ rfl
     have hsb2 : ∀ x ∈ fl ([] ++ [[b32], [b0_3], [b9], [b16], M]), x ∈ fl [[b32], [b0_3], [b9], [b16], M] := pick_sub [some 0, some 1, some 2, some 3, some 4] _ rfl
     have hst0 := Stp.call (LS := [[b32], [b0_3], [b9], [b16], M]) (res := [blk a0_38]) (par := []) (R := [[b32], [b0_3], [b9], [b16], M]) he38 (fun b hb => hsb2 b (fl_left' (P := []) b hb)) hfn38 (NP.init _ _) (fun x hx => hsb2 x (fl_right' (P := []) x hx))
     have hsn : ∀ x ∈ fl [blk a0_38, [b32], [b0_3], [b9], [b16], M], x ∈ fl ([blk a0_38] ++ ([] ++ [[b32], [b0_3], [b9], [b16], M])) := pick_sub [some 0, some 1, some 2, some 3, some 4, some 5] _ rfl
     have hst := hst0.res hsn
     replace hf3_1 := he38.box hf3_1 ((MS.outs (P := []) hpk2 1 rfl) _ mem1)
     replace hf3_2 := hf3_2.step hst
     replace hb9 := he38.box hb9 ((MS.outs (P := []) hpk2 2 rfl) _ mem1)
     replace hf7_1 := hf7_1.step hst
     replace hb16 := he38.box hb16 ((MS.outs (P := []) hpk2 3 rfl) _ mem1)
     replace hj14_l25 := hj14_l25.step hst
     replace hj15_l25 := hj15_l25.step hst
     replace hf30_1 := hf30_1.step hst
     replace hb32 := he38.box hb32 ((MS.outs (P := []) hpk2 0 rfl) _ mem1)
     replace hms : MS w38 [blk a0_38, [b32], [b0_3], [b9], [b16], M] := (MS.call (P := []) (R := [[b32], [b0_3], [b9], [b16], M]) (res := [blk a0_38]) (par := []) hpk2 he38 hmn38 hfn38 (NP.init _ _)).pick [some 0, some 1, some 2, some 3, some 4, some 5] _ rfl
     have hfr2 : FR w.heap.size [blk a0_38, [b32], [b0_3], [b9], [b16]] := (FR.cons (fun b hb => Nat.le_trans hev.size (hfn38.at 0 rfl b hb)) (FR.cons (hfr.at 0 rfl) (FR.cons (hfr.at 1 rfl) (FR.cons (hfr.at 2 rfl) (FR.cons (hfr.at 3 rfl) (FR.nil _))))))
     replace hev := hev.ext he38
     replace hfr := hfr2
     clear hfr2
     replace hf38_1 := OwnS.plain (M' := fl [blk a0_38, [b32], [b0_3], [b9], [b16], M]) (plain_int _) hf38_1
     clear hpk hsb hsb0 hpk2 hsb2 hst0 hsn hst
     have hpk : MS w38 [[b32], [b0_3], [b9], [b16], M] := hms.pick [some 1, some 2, some 3, some 4, some 5] _ rfl
     have hsu : ∀ x ∈ fl [[b32], [b0_3], [b9], [b16], M], x ∈ fl [blk a0_38, [b32], [b0_3], [b9], [b16], M] := pick_sub [some 1, some 2, some 3, some 4, some 5] _ rfl
     replace hf3_2 := hf3_2.sub hsu
     replace hf7_1 := hf7_1.sub hsu
     replace hj14_l25 := hj14_l25.sub hsu
     replace hj15_l25 := hj15_l25.sub hsu
     replace hf30_1 := hf30_1.sub hsu
     replace hf38_1 := hf38_1.ro hsu (pick_out hms 0 rfl [some 1, some 2, some 3, some 4, some 5] [[b32], [b0_3], [b9], [b16], M] rfl rfl)
     replace hms := hpk
     replace hfr : FR w.heap.size [[b32], [b0_3], [b9], [b16]] := hfr.pick [some 1, some 2, some 3, some 4] _ rfl
     clear hpk hsu
     refine x_pure 3 [(56, .tuple #[.agg #[Vi x37.1.1, .slice a0_38 (x37.1.2).length c0_38], Vi x37.2]), (59, .agg #[Vi x37.1.1, .slice a0_38 (x37.1.2).length c0_38]), (60, Vi x37.2)] _ _ _ (by kernel_rfl) ?_
     refine x_alloc (z := .agg #[Vi 0, .slice none 0 0]) rfl rfl (by kernel_rfl) (fun b40 w40 hq40 hb40 he40 hz40 => ?_)
     replace hb40 : w40.heap[b40]? = some (.cells #[Vi 0, .slice none 0 0] 27 (0, 0)) := hb40
     refine inl1 ?_
     have hst := Stp.box (ls := [[b32], [b0_3], [b9], [b16], M]) he40 hq40
     replace hf3_1 := he40.box hf3_1 nn
     replace hf3_2 := hf3_2.step hst
     replace hb9 := he40.box hb9 nn
     replace hf7_1 := hf7_1.step hst
     replace hb16 := he40.box hb16 nn
     replace hj14_l25 := hj14_l25.step hst
     replace hj15_l25 := hj15_l25.step hst
     replace hf30_1 := hf30_1.step hst
     replace hb32 := he40.box hb32 nn
     replace hf38_1 := hf38_1.step hst
     replace hms := hms.box he40 hq40 hb40
     replace hfr := hfr.box hev.size hq40
     replace hev := hev.ext he40
     obtain ⟨w42, hr42, hb42, he42⟩ := store_boxagg 0 [Vi x37.1.1, .slice a0_38 (x37.1.2).length c0_38] #[Vi x37.1.1, .slice a0_38 (x37.1.2).length c0_38] tagg27 hb40 rfl rfl rfl
     refine x_store w42 (xv := Vp b40 0) (yv := .agg #[Vi x37.1.1, .slice a0_38 (x37.1.2).length c0_38]) rfl rfl rfl rfl hr42 ?_
     refine inl1 ?_
     have hst := Stp.ev' (ls := [[b40], [b32], [b0_3], [b9], [b16], M]) he42 (mem_flat 0 rfl)
     replace hf3_1 := he42.box hf3_1 (hms.apart 2 0 rfl rfl rfl _ mem1)
     replace hf3_2 := hf3_2.step hst
     replace hb9 := he42.box hb9 (hms.apart 3 0 rfl rfl rfl _ mem1)
     replace hf7_1 := hf7_1.step hst
     replace hb16 := he42.box hb16 (hms.apart 4 0 rfl rfl rfl _ mem1)
     replace hj14_l25 := hj14_l25.step hst
     replace hj15_l25 := hj15_l25.step hst
     replace hf30_1 := hf30_1.step hst
     replace hb32 := he42.box hb32 (hms.apart 1 0 rfl rfl rfl _ mem1)
     replace hf38_1 := hf38_1.step hst
     replace hms := hms.ev he42
     replace hev := hev.then he42 (fun b hb => .inr (hfr.at 0 rfl b hb))
     replace hb40 := hb42
     refine x_pure 1 [(13, Vi x37.2)] _ _ _ (by kernel_rfl) ?_
     refine x_ek ?_
     refine c_norm [(3, Vp b0_3 0), (4, Vp b9 0), (5, Vp b16 0), (7, Vi i_s7_l25), (9, Vi x29.2), (10, .bool x35.1), (11, Vi x35.2), (12, Vp b40 0), (13, Vi x37.2)] ⟨rfl, rfl, rfl, rfl, rfl, rfl, rfl, rfl, rfl, trivial⟩ (fun J => ?_)
     refine c_sp ?_
     refine x_pure 3 [(61, Vi x29.2), (62, .bool (x29.2 != 0)), (63, .bool (x29.2 != 0))] _ _ _ (by kernel_rfl) ?_
     refine x_split 63 (x29.2 != 0) rfl (fun hb => ?_) (fun hb => ?_)
     · replace h := ite_t hb h
       refine x_pure 19 [(64, undef), (65, undef), (66, .bool true), (67, .bool true), (68, undef), (69, undef), (70, .bool true), (71, .bool true), (72, undef), (73, undef), (74, .bool true), (75, .bool true), (76, undef), (77, undef), (78, undef), (79, undef), (80, undef), (81, undef), (82, .bool true)] _ _ _ (by kernel_rfl) ?_
       refine x_ek ?_
       refine c_norm [(3, Vp b0_3 0), (4, Vp b9 0), (5, Vp b16 0), (7, Vi i_s7_l25), (82, .bool true)] ⟨rfl, rfl, rfl, rfl, rfl, trivial⟩ (fun J => ?_)
       refine c_true rfl ?_
       refine c_sp ?_
       refine x_pure 1 [(2, .bool false)] _ _ _ (by kernel_rfl) ?_
       refine x_ek ?_
       refine c_ret ?_
       refine k_then_ret ?_
       refine k_block_ret ?_
       refine k_then_ret ?_
       have hx := some_inj h
       subst hx
       have hy := some_inj hn25
       subst hy
       replace h := h25
       refine k_then_ret ?_
       refine k_block_ret ?_
       refine k_then_ret ?_
       refine r_ret (r_vals [.bool false] ⟨rfl, trivial⟩ ?_)
       have hx := some_inj h
       subst hx
       have hmr : MS w42 [M] := hms.pick [some 5] _ rfl
       have hsu : ∀ x ∈ fl [M], x ∈ fl [[b40], [b32], [b0_3], [b9], [b16], M] := pick_sub [some 5] _ rfl
       exact ⟨rfl, hev⟩
     replace h := ite_f hb h
     refine x_pure 4 [(64, Vi x35.2), (65, .bool (x35.2 != 0)), (66, .bool (x35.2 != 0)), (67, .bool (x35.2 != 0))] _ _ _ (by kernel_rfl) ?_
     refine x_split 67 (x35.2 != 0) rfl (fun hb => ?_) (fun hb => ?_)
     · replace h := ite_t hb h
       refine x_pure 15 [(68, undef), (69, undef), (70, .bool true), (71, .bool true), (72, undef), (73, undef), (74, .bool true), (75, .bool true), (76, undef), (77, undef), (78, undef), (79, undef), (80, undef), (81, undef), (82, .bool true)] _ _ _ (by kernel_rfl) ?_
       refine x_ek ?_
       refine c_norm [(3, Vp b0_3 0), (4, Vp b9 0), (5, Vp b16 0), (7, Vi i_s7_l25), (82, .bool true)] ⟨rfl, rfl, rfl, rfl, rfl, trivial⟩ (fun J => ?_)
       refine c_true rfl ?_
       refine c_sp ?_
       refine x_pure 1 [(2, .bool false)] _ _ _ (by kernel_rfl) ?_
       refine x_ek ?_
       refine c_ret ?_
       refine k_then_ret ?_
       refine k_block_ret ?_
       refine k_then_ret ?_
       have hx := some_inj h
       subst hx
       have hy := some_inj hn25
       subst hy
       replace h := h25
       refine k_then_ret ?_
       refine k_block_ret ?_
       refine k_then_ret ?_
       refine r_ret (r_vals [.bool false] ⟨rfl, trivial⟩ ?_)
       have hx := some_inj h
       subst hx
       have hmr : MS w42 [M] := hms.pick [some 5] _ rfl
       have hsu : ∀ x ∈ fl [M], x ∈ fl [[b40], [b32], [b0_3], [b9], [b16], M] := pick_sub [some 5] _ rfl
       exact ⟨rfl, hev⟩
     replace h := ite_f hb h
     refine x_pure 4 [(68, .bool x35.1), (69, .bool (!x35.1)), (70, .bool (!x35.1)), (71, .bool (!x35.1))] _ _ _ (by kernel_rfl) ?_
     refine x_split 71 (!x35.1) rfl (fun hb => ?_) (fun hb => ?_)
     · replace h := ite_t hb h
       refine x_pure 11 [(72, undef), (73, undef), (74, .bool true), (75, .bool true), (76, undef), (77, undef), (78, undef), (79, undef), (80, undef), (81, undef), (82, .bool true)] _ _ _ (by kernel_rfl) ?_
       refine x_ek ?_
       refine c_norm [(3, Vp b0_3 0), (4, Vp b9 0), (5, Vp b16 0), (7, Vi i_s7_l25), (82, .bool true)] ⟨rfl, rfl, rfl, rfl, rfl, trivial⟩ (fun J => ?_)
       refine c_true rfl ?_
       refine c_sp ?_
       refine x_pure 1 [(2, .bool false)] _ _ _ (by kernel_rfl) ?_
       refine x_ek ?_
       refine c_ret ?_
       refine k_then_ret ?_
       refine k_block_ret ?_
       refine k_then_ret ?_
       have hx := some_inj h
       subst hx
       have hy := some_inj hn25
       subst hy
       replace h := h25
       refine k_then_ret ?_
       refine k_block_ret ?_
       refine k_then_ret ?_
       refine r_ret (r_vals [.bool false] ⟨rfl, trivial⟩ ?_)
       have hx := some_inj h
       subst hx
       have hmr : MS w42 [M] := hms.pick [some 5] _ rfl
       have hsu : ∀ x ∈ fl [M], x ∈ fl [[b40], [b32], [b0_3], [b9], [b16], M] := pick_sub [some 5] _ rfl
       exact ⟨rfl, hev⟩
     replace h := ite_f hb h
     refine x_pure 4 [(72, Vi x37.2), (73, .bool (x37.2 != 0)), (74, .bool (x37.2 != 0)), (75, .bool (x37.2 != 0))] _ _ _ (by kernel_rfl) ?_
     refine x_split 75 (x37.2 != 0) rfl (fun hb => ?_) (fun hb => ?_)
     · replace h := ite_t hb h
       refine x_pure 7 [(76, undef), (77, undef), (78, undef), (79, undef), (80, undef), (81, undef), (82, .bool true)] _ _ _ (by kernel_rfl) ?_
       refine x_ek ?_
       refine c_norm [(3, Vp b0_3 0), (4, Vp b9 0), (5, Vp b16 0), (7, Vi i_s7_l25), (82, .bool true)] ⟨rfl, rfl, rfl, rfl, rfl, trivial⟩ (fun J => ?_)
       refine c_true rfl ?_
       refine c_sp ?_
       refine x_pure 1 [(2, .bool false)] _ _ _ (by kernel_rfl) ?_
       refine x_ek ?_
       refine c_ret ?_
       refine k_then_ret ?_
       refine k_block_ret ?_
       refine k_then_ret ?_
       have hx := some_inj h
       subst hx
       have hy := some_inj hn25
       subst hy
       replace h := h25
       refine k_then_ret ?_
       refine k_block_ret ?_
       refine k_then_ret ?_
       refine r_ret (r_vals [.bool false] ⟨rfl, trivial⟩ ?_)
       have hx := some_inj h
       subst hx
       have hmr : MS w42 [M] := hms.pick [some 5] _ rfl
       have hsu : ∀ x ∈ fl [M], x ∈ fl [[b40], [b32], [b0_3], [b9], [b16], M] := pick_sub [some 5] _ rfl
       exact ⟨rfl, hev⟩
     replace h := ite_f hb h
     refine x_fieldAddr (xv := Vp b40 0) (Vp b40 0) rfl rfl rfl (reads_field tfld27_0 _ _) ?_
     refine x_load (xv := Vp b40 0) (Vi x37.1.1) rfl rfl rfl (reads_box tcell3 hb40 nn 0 _ rfl) ?_
     refine x_fieldAddr (xv := Vp b16 0) (Vp b16 0) rfl rfl rfl (reads_field tfld29_0 _ _) ?_
     refine x_fieldAddr (xv := Vp b16 0) (Vp b16 0) rfl rfl rfl (reads_field tfld27_0 _ _) ?_
     refine x_load (xv := Vp b16 0) (Vi e17_l25_0) rfl rfl rfl (reads_box tcell3 hb16 nn 0 _ rfl) ?_
     refine x_pure 2 [(81, .bool (x37.1.1 != e17_l25_0)), (82, .bool (x37.1.1 != e17_l25_0))] _ _ _ (by kernel_rfl) ?_
     refine x_ek ?_
     refine c_norm [(3, Vp b0_3 0), (4, Vp b9 0), (5, Vp b16 0), (7, Vi i_s7_l25), (82, .bool (x37.1.1 != e17_l25_0))] ⟨rfl, rfl, rfl, rfl, rfl, trivial⟩ (fun J => ?_)
     refine c_cond (x37.1.1 != e17_l25_0) rfl (fun hb => ?_) (fun hb => ?_)
     · replace h := ite_t hb h
       refine c_sp ?_
       refine x_pure 1 [(2, .bool false)] _ _ _ (by kernel_rfl) ?_
       refine x_ek ?_
       refine c_ret ?_
       refine k_then_ret ?_
       refine k_block_ret ?_
       refine k_then_ret ?_
       have hx := some_inj h
       subst hx
       have hy := some_inj hn25
       subst hy
       replace h := h25
       refine k_then_ret ?_
       refine k_block_ret ?_
       refine k_then_ret ?_
       refine r_ret (r_vals [.bool false] ⟨rfl, trivial⟩ ?_)
       have hx := some_inj h
       subst hx
       have hmr : MS w42 [M] := hms.pick [some 5] _ rfl
       have hsu : ∀ x ∈ fl [M], x ∈ fl [[b40], [b32], [b0_3], [b9], [b16], M] := pick_sub [some 5] _ rfl
       exact ⟨rfl, hev⟩
     replace h := ite_f hb h
     refine c_skip ?_
     refine k_then ?_
     refine c_plain ?_
     refine x_pure 1 [(83, Vp b0_3 0)] _ _ _ (by kernel_rfl) ?_
     refine x_load (xv := Vp b16 0) (.agg #[Vi e17_l25_0, .slice a14_l25 (d14_l25).length c14_l25, .slice a15_l25 (d15_l25).length c15_l25]) rfl rfl rfl (reads_boxagg 0 [Vi e17_l25_0, .slice a14_l25 (d14_l25).length c14_l25, .slice a15_l25 (d15_l25).length c15_l25] tagg29 hb16 nn rfl) ?_
     obtain ⟨x43, hx, h⟩ := bind_some h
     have hpk : MS w42 ([[b0_3]] ++ [[b40], [b32], [b9], [b16], M]) := hms.pick [some 2, some 0, some 1, some 3, some 4, some 5] _ rfl
     have hsb0 : ∀ x ∈ fl ([[b0_3]] ++ [[b40], [b32], [b9], [b16], M]), x ∈ fl [[b40], [b32], [b0_3], [b9], [b16], M] := pick_sub [some 2, some 0, some 1, some 3, some 4, some 5] _ rfl
     have hsb : ∀ x ∈ fl ([[b0_3]] ++ [(fl [[b40], [b32], [b9], [b16], M])]), x ∈ fl [[b40], [b32], [b0_3], [b9], [b16], M] := fun x hx => hsb0 x (fl_unfold x hx)
     have hcall := law15_spoil_w b0_3 a1_3 c1_3 x2.1 e4_l25_1 e17_l25_0 a14_l25 c14_l25 d14_l25 a15_l25 c15_l25 d15_l25 _ w42 (fl [[b40], [b32], [b9], [b16], M]) (hpk.fold (P := [[b0_3]])) (hf3_2.sub hsb) hf3_1 (hj14_l25.sub hsb) (hj15_l25.sub hsb) hx
     refine x_call 13 #[] #[] [Vp b0_3 0, .agg #[Vi e17_l25_0, .slice a14_l25 (d14_l25).length c14_l25, .slice a15_l25 (d15_l25).length c15_l25]] _ rfl rfl rfl rfl hcall ?_
     rintro v w44 ⟨a0_44, c0_44, a2_44, c2_44, rfl, he44, hp44_0, hmn44, hfn44, hf44_1, hf44_2⟩
     clear hcall hx
     refine inl1 ?_
     have hpk2 : MS w42 ([[b0_3]] ++ [[b40], [b32], [b9], [b16], M]) := hms.pick [some 2, some 0, some 1, some 3, some 4, some 5] _ rfl
     have hsb2 : ∀ x ∈ fl ([[b0_3]] ++ [[b40], [b32], [b9], [b16], M]), x ∈ fl [[b40], [b32], [b0_3], [b9], [b16], M] := pick_sub [some 2, some 0, some 1, some 3, some 4, some 5] _ rfl
     have hst0 := Stp.call (LS := [[b40], [b32], [b0_3], [b9], [b16], M]) (res := [blk a0_44, blk a2_44]) (par := [[b0_3]]) (R := [[b40], [b32], [b9], [b16], M]) he44 (fun b hb => hsb2 b (fl_left' (P := [[b0_3]]) b hb)) hfn44 (NP.init _ _) (fun x hx => hsb2 x (fl_right' (P := [[b0_3]]) x hx))
     have hsn : ∀ x ∈ fl [blk a0_44, blk a2_44, [b40], [b32], [b0_3], [b9], [b16], M], x ∈ fl ([blk a0_44, blk a2_44] ++ ([[b0_3]] ++ [[b40], [b32], [b9], [b16], M])) := pick_sub [some 0, some 1, some 3, some 4, some 2, some 5, some 6, some 7] _ rfl
     have hst := hst0.res hsn
     replace hf3_2 := hf3_2.step hst
     replace hb9 := he44.box hb9 ((MS.outs (P := [[b0_3]]) hpk2 2 rfl) _ mem1)
     replace hf7_1 := hf7_1.step hst
     replace hb16 := he44.box hb16 ((MS.outs (P := [[b0_3]]) hpk2 3 rfl) _ mem1)
     replace hj14_l25 := hj14_l25.step hst
     replace hj15_l25 := hj15_l25.step hst
     replace hf30_1 := hf30_1.step hst
     replace hb32 := he44.box hb32 ((MS.outs (P := [[b0_3]]) hpk2 1 rfl) _ mem1)
     replace hf38_1 := hf38_1.step hst
     replace hb40 := he44.box hb40 ((MS.outs (P := [[b0_3]]) hpk2 0 rfl) _ mem1)
     replace hms : MS w44 [blk a0_44, blk a2_44, [b40], [b32], [b0_3], [b9], [b16], M] := (MS.call (P := [[b0_3]]) (R := [[b40], [b32], [b9], [b16], M]) (res := [blk a0_44, blk a2_44]) (par := [[b0_3]]) hpk2 he44 hmn44 hfn44 (NP.init _ _)).pick [some 0, some 1, some 3, some 4, some 2, some 5, some 6, some 7] _ rfl
     have hPf : ∀ b ∈ fl [[b0_3]], w.heap.size ≤ b := FR.mem (ls := [[b0_3]]) (hfr.pick [some 2] _ rfl)
     have hfr2 : FR w.heap.size [blk a0_44, blk a2_44, [b40], [b32], [b0_3], [b9], [b16]] := (FR.cons (fun b hb => Nat.le_trans hev.size (hfn44.at 0 rfl b hb)) (FR.cons (fun b hb => Nat.le_trans hev.size (hfn44.at 1 rfl b hb)) (FR.cons (hfr.at 0 rfl) (FR.cons (hfr.at 1 rfl) (FR.cons (hfr.at 2 rfl) (FR.cons (hfr.at 3 rfl) (FR.cons (hfr.at 4 rfl) (FR.nil _))))))))
     replace hev := hev.then he44 (fun b hb => .inr (hPf b hb))
     replace hfr := hfr2
     clear hfr2
     replace hf3_1 := hp44_0
     replace hf44_1 := OwnS.plain (M' := fl [blk a0_44, blk a2_44, [b40], [b32], [b0_3], [b9], [b16], M]) (plain_int _) hf44_1
     replace hf44_2 := OwnS.plain (M' := fl [blk a0_44, blk a2_44, [b40], [b32], [b0_3], [b9], [b16], M]) (plain_int _) hf44_2
     clear hpk hsb hsb0 hpk2 hsb2 hst0 hsn hst
     have hpk : MS w44 [blk a2_44, [b40], [b32], [b0_3], [b9], [b16], M] := hms.pick [some 1, some 2, some 3, some 4, some 5, some 6, some 7] _ rfl
     have hsu : ∀ x ∈ fl [blk a2_44, [b40], [b32], [b0_3], [b9], [b16], M], x ∈ fl [blk a0_44, blk a2_44, [b40], [b32], [b0_3], [b9], [b16], M] := pick_sub [some 1, some 2, some 3, some 4, some 5, some 6, some 7] _ rfl
     replace hf3_2 := hf3_2.sub hsu
     replace hf7_1 := hf7_1.sub hsu
     replace hj14_l25 := hj14_l25.sub hsu
     replace hj15_l25 := hj15_l25.sub hsu
     replace hf30_1 := hf30_1.sub hsu
     replace hf38_1 := hf38_1.sub hsu
     replace hf44_1 := hf44_1.ro hsu (pick_out hms 0 rfl [some 1, some 2, some 3, some 4, some 5, some 6, some 7] [blk a2_44, [b40], [b32], [b0_3], [b9], [b16], M] rfl rfl)
     replace hf44_2 := hf44_2.sub hsu
     replace hms := hpk
     replace hfr : FR w.heap.size [blk a2_44, [b40], [b32], [b0_3], [b9], [b16]] := hfr.pick [some 1, some 2, some 3, some 4, some 5, some 6] _ rfl
     clear hpk hsu
     have hpk : MS w44 [[b40], [b32], [b0_3], [b9], [b16], M] := hms.pick [some 1, some 2, some 3, some 4, some 5, some 6] _ rfl
     have hsu : ∀ x ∈ fl [[b40], [b32], [b0_3], [b9], [b16], M], x ∈ fl [blk a2_44, [b40], [b32], [b0_3], [b9], [b16], M] := pick_sub [some 1, some 2, some 3, some 4, some 5, some 6] _ rfl
     replace hf3_2 := hf3_2.sub hsu
     replace hf7_1 := hf7_1.sub hsu
     replace hj14_l25 := hj14_l25.sub hsu
     replace hj15_l25 := hj15_l25.sub hsu
     replace hf30_1 := hf30_1.sub hsu
     replace hf38_1 := hf38_1.sub hsu
     replace hf44_1 := hf44_1.sub hsu
     replace hf44_2 := hf44_2.ro hsu (pick_out hms 0 rfl [some 1, some 2, some 3, some 4, some 5, some 6] [[b40], [b32], [b0_3], [b9], [b16], M] rfl rfl)
     replace hms := hpk
     replace hfr : FR w.heap.size [[b40], [b32], [b0_3], [b9], [b16]] := hfr.pick [some 1, some 2, some 3, some 4, some 5] _ rfl
     clear hpk hsu
     obtain ⟨w47, hr47, hb47, he47⟩ := store_boxagg 0 [Vi x43.1.1.1, .slice a0_44 (x43.1.1.2).length c0_44, .slice a2_44 (x43.1.2).length c2_44] #[Vi x43.1.1.1, .slice a0_44 (x43.1.1.2).length c0_44, .slice a2_44 (x43.1.2).length c2_44] tagg29 hb16 rfl rfl rfl
     refine x_store w47 (xv := Vp b16 0) (yv := .agg #[Vi x43.1.1.1, .slice a0_44 (x43.1.1.2).length c0_44, .slice a2_44 (x43.1.2).length c2_44]) rfl rfl rfl rfl hr47 ?_
     refine inl1 ?_
     have hst := Stp.ev' (ls := [[b40], [b32], [b0_3], [b9], [b16], M]) he47 (mem_flat 4 rfl)
     replace hf3_1 := he47.box hf3_1 (hms.apart 2 4 rfl rfl rfl _ mem1)
     replace hf3_2 := hf3_2.step hst
     replace hb9 := he47.box hb9 (hms.apart 3 4 rfl rfl rfl _ mem1)
     replace hf7_1 := hf7_1.step hst
     replace hj14_l25 := hj14_l25.step hst
     replace hj15_l25 := hj15_l25.step hst
     replace hf30_1 := hf30_1.step hst
     replace hb32 := he47.box hb32 (hms.apart 1 4 rfl rfl rfl _ mem1)
     replace hf38_1 := hf38_1.step hst
     replace hb40 := he47.box hb40 (hms.apart 0 4 rfl rfl rfl _ mem1)
     replace hf44_1 := hf44_1.step hst
     replace hf44_2 := hf44_2.step hst
     replace hms := hms.ev he47
     replace hev := hev.then he47 (fun b hb => .inr (hfr.at 4 rfl b hb))
     replace hb16 := hb47
     refine x_end rfl ?_
     refine k_block ?_
     refine k_then ?_
     refine c_plain ?_
     refine x_pure 3 [(36, Vi i_s7_l25), (37, Vi (IntKind.i64.wrap (i_s7_l25 + 1))), (7, Vi (IntKind.i64.wrap (i_s7_l25 + 1)))] _ _ _ (by kernel_rfl) ?_
     refine x_end rfl ?_
     have hx := some_inj h
     subst hx
     have hpk : MS w47 [[b0_3], [b9], [b16], M] := hms.pick [some 2, some 3, some 4, some 5] _ rfl
     have hsu : ∀ x ∈ fl [[b0_3], [b9], [b16], M], x ∈ fl [[b40], [b32], [b0_3], [b9], [b16], M] := pick_sub [some 2, some 3, some 4, some 5] _ rfl
     replace hf3_2 := hf3_2.sub hsu
     replace hf7_1 := hf7_1.sub hsu
     replace hf44_1 := hf44_1.sub hsu
     replace hf44_2 := hf44_2.sub hsu
     replace hms := hpk
     replace hfr : FR w.heap.size [[b0_3], [b9], [b16]] := hfr.pick [some 2, some 3, some 4] _ rfl
     clear hpk hsu
     exact k_then ⟨(m25, x43.2, x43.1.1.1, x43.1.1.2, x43.1.2, IntKind.i64.wrap (i_s7_l25 + 1), a0_44, c0_44, a2_44, c2_44), ⟨rfl, rfl, rfl, rfl, trivial⟩, ⟨hn25, hev, hms, hfr, hf3_2, hf3_1, hf7_1, hb9, hf44_1, hf44_2, hb16⟩, Nat.lt_succ_self _⟩
   replace h := ite_f hb h
   refine c_skip ?_
   refine k_then ?_
   refine c_plain ?_
   refine x_pure 1 [(83, Vp b0_3 0)] _ _ _ (by kernel_rfl) ?_
   refine x_load (xv := Vp b16 0) (.agg #[Vi e17_l25_0, .slice a14_l25 (d14_l25).length c14_l25, .slice a15_l25 (d15_l25).length c15_l25]) rfl rfl rfl (reads_boxagg 0 [Vi e17_l25_0, .slice a14_l25 (d14_l25).length c14_l25, .slice a15_l25 (d15_l25).length c15_l25] tagg29 hb16 nn rfl) ?_
   obtain ⟨x48, hx, h⟩ := bind_some h
   have hpk : MS w28 ([[b0_3]] ++ [[b9], [b16], M]) := hms.pick [some 0, some 1, some 2, some 3] _ rfl
   have hsb0 : ∀ x ∈ fl ([[b0_3]] ++ [[b9], [b16], M]), x ∈ fl [[b0_3], [b9], [b16], M] := pick_sub [some 0, some 1, some 2, some 3] _ rfl
   have hsb : ∀ x ∈ fl ([[b0_3]] ++ [(fl [[b9], [b16], M])]), x ∈ fl [[b0_3], [b9], [b16], M] := fun x hx => hsb0 x (fl_unfold x hx)
   have hcall := law15_spoil_w b0_3 a1_3 c1_3 x2.1 e4_l25_1 e17_l25_0 a14_l25 c14_l25 d14_l25 a15_l25 c15_l25 d15_l25 _ w28 (fl [[b9], [b16], M]) (hpk.fold (P := [[b0_3]])) (hf3_2.sub hsb) hf3_1 (hj14_l25.sub hsb) (hj15_l25.sub hsb) hx
   refine x_call 13 #[] #[] [Vp b0_3 0, .agg #[Vi e17_l25_0, .slice a14_l25 (d14_l25).length c14_l25, .slice a15_l25 (d15_l25).length c15_l25]] _ rfl rfl rfl rfl hcall ?_
   rintro v w49 ⟨a0_49, c0_49, a2_49, c2_49, rfl, he49, hp49_0, hmn49, hfn49, hf49_1, hf49_2⟩
   clear hcall hx
   refine inl1 ?_
   have hpk2 : MS w28 ([[b0_3]] ++ [[b9], [b16], M]) := hms.pick [some 0, some 1, some 2, some 3] _ rfl
   have hsb2 : ∀ x ∈ fl ([[b0_3]] ++ [[b9], [b16], M]), x ∈ fl [[b0_3], [b9], [b16], M] := pick_sub [some 0, some 1, some 2, some 3] _ rfl
   have hst0 := Stp.call (LS := [[b0_3], [b9], [b16], M]) (res := [blk a0_49, blk a2_49]) (par := [[b0_3]]) (R := [[b9], [b16], M]) he49 (fun b hb => hsb2 b (fl_left' (P := [[b0_3]]) b hb)) hfn49 (NP.init _ _) (fun x hx => hsb2 x (fl_right' (P := [[b0_3]]) x hx))
   have hsn : ∀ x ∈ fl [blk a0_49, blk a2_49, [b0_3], [b9], [b16], M], x ∈ fl ([blk a0_49, blk a2_49] ++ ([[b0_3]] ++ [[b9], [b16], M])) := pick_sub [some 0, some 1, some 2, some 3, some 4, some 5] _ rfl
   have hst := hst0.res hsn
   replace hf3_2 := hf3_2.step hst
   replace hb9 := he49.box hb9 ((MS.outs (P := [[b0_3]]) hpk2 0 rfl) _ mem1)
   replace hf7_1 := hf7_1.step hst
   replace hb16 := he49.box hb16 ((MS.outs (P := [[b0_3]]) hpk2 1 rfl) _ mem1)
   replace hj14_l25 := hj14_l25.step hst
   replace hj15_l25 := hj15_l25.step hst
   replace hms : MS w49 [blk a0_49, blk a2_49, [b0_3], [b9], [b16], M] := (MS.call (P := [[b0_3]]) (R := [[b9], [b16], M]) (res := [blk a0_49, blk a2_49]) (par := [[b0_3]]) hpk2 he49 hmn49 hfn49 (NP.init _ _)).pick [some 0, some 1, some 2, some 3, some 4, some 5] _ rfl
   have hPf : ∀ b ∈ fl [[b0_3]], w.heap.size ≤ b := FR.mem (ls := [[b0_3]]) (hfr.pick [some 0] _ rfl)
   have hfr2 : FR w.heap.size [blk a0_49, blk a2_49, [b0_3], [b9], [b16]] := (FR.cons (fun b hb => Nat.le_trans hev.size (hfn49.at 0 rfl b hb)) (FR.cons (fun b hb => Nat.le_trans hev.size (hfn49.at 1 rfl b hb)) (FR.cons (hfr.at 0 rfl) (FR.cons (hfr.at 1 rfl) (FR.cons (hfr.at 2 rfl) (FR.nil _))))))
   replace hev := hev.then he49 (fun b hb => .inr (hPf b hb))
   replace hfr := hfr2
   clear hfr2
   replace hf3_1 := hp49_0
   replace hf49_1 := OwnS.plain (M' := fl [blk a0_49, blk a2_49, [b0_3], [b9], [b16], M]) (plain_int _) hf49_1
   replace hf49_2 := OwnS.plain (M' := fl [blk a0_49, blk a2_49, [b0_3], [b9], [b16], M]) (plain_int _) hf49_2
   clear hpk hsb hsb0 hpk2 hsb2 hst0 hsn hst
   have hpk : MS w49 [blk a2_49, [b0_3], [b9], [b16], M] := hms.pick [some 1, some 2, some 3, some 4, some 5] _ rfl
   have hsu : ∀ x ∈ fl [blk a2_49, [b0_3], [b9], [b16], M], x ∈ fl [blk a0_49, blk a2_49, [b0_3], [b9], [b16], M] := pick_sub [some 1, some 2, some 3, some 4, some 5] _ rfl
   replace hf3_2 := hf3_2.sub hsu
   replace hf7_1 := hf7_1.sub hsu
   replace hj14_l25 := hj14_l25.sub hsu
   replace hj15_l25 := hj15_l25.sub hsu
   replace hf49_1 := hf49_1.ro hsu (pick_out hms 0 rfl [some 1, some 2, some 3, some 4, some 5] [blk a2_49, [b0_3], [b9], [b16], M] rfl rfl)
   replace hf49_2 := hf49_2.sub hsu
   replace hms := hpk
   replace hfr : FR w.heap.size [blk a2_49, [b0_3], [b9], [b16]] := hfr.pick [some 1, some 2, some 3, some 4] _ rfl
   clear hpk hsu
   have hpk : MS w49 [[b0_3], [b9], [b16], M] := hms.pick [some 1, some 2, some 3, some 4] _ rfl
   have hsu : ∀ x ∈ fl [[b0_3], [b9], [b16], M], x ∈ fl [blk a2_49, [b0_3], [b9], [b16], M] := pick_sub [some 1, some 2, some 3, some 4] _ rfl
   replace hf3_2 := hf3_2.sub hsu
   replace hf7_1 := hf7_1.sub hsu
   replace hj14_l25 := hj14_l25.sub hsu
   replace hj15_l25 := hj15_l25.sub hsu
   replace hf49_1 := hf49_1.sub hsu
   replace hf49_2 := hf49_2.ro hsu (pick_out hms 0 rfl [some 1, some 2, some 3, some 4] [[b0_3], [b9], [b16], M] rfl rfl)
   replace hms := hpk
   replace hfr : FR w.heap.size [[b0_3], [b9], [b16]] := hfr.pick [some 1, some 2, some 3] _ rfl
   clear hpk hsu
   obtain ⟨w52, hr52, hb52, he52⟩ := store_boxagg 0 [Vi x48.1.1.1, .slice a0_49 (x48.1.1.2).length c0_49, .slice a2_49 (x48.1.2).length c2_49] #[Vi x48.1.1.1, .slice a0_49 (x48.1.1.2).length c0_49, .slice a2_49 (x48.1.2).length c2_49] tagg29 hb16 rfl rfl rfl
   refine x_store w52 (xv := Vp b16 0) (yv := .agg #[Vi x48.1.1.1, .slice a0_49 (x48.1.1.2).length c0_49, .slice a2_49 (x48.1.2).length c2_49]) rfl rfl rfl rfl hr52 ?_
   refine inl1 ?_
   have hst := Stp.ev' (ls := [[b0_3], [b9], [b16], M]) he52 (mem_flat 2 rfl)
   replace hf3_1 := he52.box hf3_1 (hms.apart 0 2 rfl rfl rfl _ mem1)
   replace hf3_2 := hf3_2.step hst
   replace hb9 := he52.box hb9 (hms.apart 1 2 rfl rfl rfl _ mem1)
   replace hf7_1 := hf7_1.step hst
   replace hj14_l25 := hj14_l25.step hst
   replace hj15_l25 := hj15_l25.step hst
   replace hf49_1 := hf49_1.step hst
   replace hf49_2 := hf49_2.step hst
   replace hms := hms.ev he52
   replace hev := hev.then he52 (fun b hb => .inr (hfr.at 2 rfl b hb))
   replace hb16 := hb52
   refine x_end rfl ?_
   refine k_block ?_
   refine k_then ?_
   refine c_plain ?_
   refine x_pure 3 [(36, Vi i_s7_l25), (37, Vi (IntKind.i64.wrap (i_s7_l25 + 1))), (7, Vi (IntKind.i64.wrap (i_s7_l25 + 1)))] _ _ _ (by kernel_rfl) ?_
   refine x_end rfl ?_
   have hx := some_inj h
   subst hx
   exact k_then ⟨(m25, x48.2, x48.1.1.1, x48.1.1.2, x48.1.2, IntKind.i64.wrap (i_s7_l25 + 1), a0_49, c0_49, a2_49, c2_49), ⟨rfl, rfl, rfl, rfl, trivial⟩, ⟨hn25, hev, hms, hfr, hf3_2, hf3_1, hf7_1, hb9, hf49_1, hf49_2, hb16⟩, Nat.lt_succ_self _⟩
 replace h := ite_f hb h
 refine c_exit ?_
 refine k_then_exit ?_
 have hx := some_inj h
 subst hx
 have hy := some_inj hn25
 subst hy
 replace h := h25
 refine k_then_exit ?_
 refine k_block_in ?_
 refine k_then ?_
 refine c_norm [] trivial (fun J => ?_)
 refine c_sp ?_
 obtain ⟨x53, hx, h⟩ := bind_some h
 have hcall := law15_sane_w _ wl25 hx
 refine x_call 17 #[] #[] [] _ rfl rfl rfl rfl hcall ?_
 rintro v w54 ⟨rfl, he54⟩
 clear hcall hx
 refine inl1 ?_
 have hst := Stp.ext (ls := [[b0_3], [b9], [b16], M]) he54
 replace hf3_1 := he54.box hf3_1 nn
 replace hf3_2 := hf3_2.step hst
 replace hb9 := he54.box hb9 nn
 replace hf7_1 := hf7_1.step hst
 replace hb16 := he54.box hb16 nn
 replace hj14_l25 := hj14_l25.step hst
 replace hj15_l25 := hj15_l25.step hst
 replace hms := hms.ev he54
 replace hev := hev.ext he54
 refine x_pure 1 [(2, .bool x53)] _ _ _ (by kernel_rfl) ?_
 refine x_ek ?_
 refine c_ret ?_
 refine r_ret (r_vals [.bool x53] ⟨rfl, trivial⟩ ?_)
 have hx := some_inj h
 subst hx
 have hmr : MS w54 [M] := hms.pick [some 3] _ rfl
 have hsu : ∀ x ∈ fl [M], x ∈ fl [[b0_3], [b9], [b16], M] := pick_sub [some 3] _ rfl
 exact ⟨rfl, hev⟩
end Go.Proofs.Ytcignnfdpgeogaa
