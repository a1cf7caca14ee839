/- Walks, printed by program: each function returns what the partial function of the same name returns. Conditions: those of each theorem. -/
import Derived.Test.YtdbomhhcebmkpaaGT
import Derived.Test.YtdbomhhcebmkpaaGassign
import Derived.Test.YtdbomhhcebmkpaaGgen
import Derived.Test.YtdbomhhcebmkpaaGlaw16lists
import Derived.Test.YtdbomhhcebmkpaaGlaw16refused
import Derived.Test.YtdbomhhcebmkpaaGlaw16sane
set_option linter.unusedVariables false
set_option linter.unusedSimpArgs false
set_option maxRecDepth 4000
namespace Go.Proofs.Ytdbomhhcebmkpaa
open Go Go.V Go.Proofs
def law16_AssignDuality (p0 : List Int) : Option Bool :=
((gen_New p0).bind fun x2 =>
((law16_lists x2.1 x2.2 8).bind fun x6 =>
((assign_Match x6.1 x6.2.1).bind fun x10 =>
(if (x10.2.2 == 0) = true then
(if (((x10.2.1).length : Int) == 0) = true then
((assign_Fits x6.1 x6.2.1 x10.1).bind fun x15 =>
(if x15 = true then
((law16_refused x6.1 x6.2.1).bind fun x17 =>
(if (!x17) = true then
((law16_sane).bind fun x19 =>
some x19)
else
some false))
else
some false))
else
some false)
else
(if (x10.2.2 == 14) = true then
(if (((x10.1).length : Int) == 0) = true then
((assign_Refuses x6.1 x6.2.1 x10.2.1).bind fun x21 =>
(if x21 = true then
((law16_refused x6.1 x6.2.1).bind fun x23 =>
(if x23 = true then
((law16_sane).bind fun x25 =>
some x25)
else
some false))
else
some false))
else
some false)
else
some false)))))

theorem law16_AssignDuality_w (a_p0 : Option Addr) (c_p0 : Nat) (p0 : List Int) (r : Bool) (w : World) (M : List Nat) (hms : MS w [M]) (hs_p0 : SlR (eInt .i64) w (fl [M]) a_p0 c_p0 p0) (h : law16_AssignDuality p0 = some r) : CallVC Try.prog 5 [.slice a_p0 (p0).length c_p0] w fun v w' => v = .bool r ∧ Ev [] w w' := by
 refine calls_vc hmx Try.func5 (by kernel_rfl) rfl (rs := [.tmp 2]) rfl (by kernel_rfl) (args := [.slice a_p0 (p0).length c_p0]) rfl ?_
 have hev : Ev [] w w := Ev.refl _ _
 have hfr : FR w.heap.size [] := FR.nil _
 refine c_sp ?_
 refine x_pure 1 [(2, .bool false)] _ _ _ (by kernel_rfl) ?_
 refine x_ek ?_
 refine c_sp ?_
 refine x_pure 1 [(9, .slice a_p0 (p0).length c_p0)] _ _ _ (by kernel_rfl) ?_
 obtain ⟨x2, hx, h⟩ := bind_some h
 have hpk : MS w ([] ++ [M]) := hms.pick [some 0] _ rfl
 have hsb0 : ∀ x ∈ fl ([] ++ [M]), x ∈ fl [M] := pick_sub [some 0] _ rfl
 have hsb : ∀ x ∈ fl ([] ++ [(fl [M])]), x ∈ fl [M] := fun x hx => hsb0 x (fl_unfold x hx)
 have hcall := gen_New_w a_p0 c_p0 p0 _ w (fl [M]) (MS.fold (P := []) hpk) (hs_p0.sub hsb) hx
 refine x_call 12 #[] #[] [.slice a_p0 (p0).length c_p0] _ rfl rfl rfl rfl hcall ?_
 rintro v w3 ⟨b0_3, a1_3, c1_3, rfl, he3, hmn3, hfn3, hf3_1, hf3_2⟩
 clear hcall hx
 refine inl1 ?_
 have hpk2 : MS w ([] ++ [M]) := hms.pick [some 0] _ rfl
 have hsb2 : ∀ x ∈ fl ([] ++ [M]), x ∈ fl [M] := pick_sub [some 0] _ rfl
 have hst0 := Stp.call (LS := [M]) (res := [[b0_3]]) (par := []) (R := [M]) he3 (fun b hb => hsb2 b (fl_left' (P := []) b hb)) hfn3 (NP.init _ _) (fun x hx => hsb2 x (fl_right' (P := []) x hx))
 have hsn : ∀ x ∈ fl [[b0_3], M], x ∈ fl ([[b0_3]] ++ ([] ++ [M])) := pick_sub [some 0, some 1] _ rfl
 have hst := hst0.res hsn
 replace hs_p0 := hs_p0.step hst
 replace hms : MS w3 [[b0_3], M] := (MS.call (P := []) (R := [M]) (res := [[b0_3]]) (par := []) hpk2 he3 hmn3 hfn3 (NP.init _ _)).pick [some 0, some 1] _ rfl
 have hfr2 : FR w.heap.size [[b0_3]] := (FR.cons (fun b hb => Nat.le_trans hev.size (hfn3.at 0 rfl b hb)) (FR.nil _))
 replace hev := hev.ext he3
 replace hfr := hfr2
 clear hfr2
 have hsp : ∀ x ∈ fl [[b0_3], M], x ∈ fl ([[b0_3]] ++ ([] ++ [(fl [M])])) := fun x hx => fl_tot (res := [[b0_3]]) (par := []) (R := [M]) x (hsn x hx)
 replace hf3_2 := hf3_2.sub hsp
 clear hpk hsb hsb0 hpk2 hsb2 hst0 hsn hst
 refine x_pure 1 [(3, Vp b0_3 0)] _ _ _ (by kernel_rfl) ?_
 refine x_ek ?_
 refine c_sp ?_
 refine x_pure 1 [(12, Vp b0_3 0)] _ _ _ (by kernel_rfl) ?_
 obtain ⟨x6, hx, h⟩ := bind_some h
 have hpk : MS w3 ([[b0_3]] ++ [M]) := hms.pick [some 0, some 1] _ rfl
 have hsb0 : ∀ x ∈ fl ([[b0_3]] ++ [M]), x ∈ fl [[b0_3], M] := pick_sub [some 0, some 1] _ rfl
 have hsb : ∀ x ∈ fl ([[b0_3]] ++ [(fl [M])]), x ∈ fl [[b0_3], M] := fun x hx => hsb0 x (fl_unfold x hx)
 have hcall := law16_lists_w b0_3 a1_3 c1_3 x2.1 x2.2 8 _ w3 (fl [M]) (hpk.fold (P := [[b0_3]])) (hf3_2.sub hsb) hf3_1 hx
 refine x_call 13 #[] #[] [Vp b0_3 0, Vi 8] _ rfl rfl rfl rfl hcall ?_
 rintro v w7 ⟨a0_7, c0_7, a2_7, c2_7, rfl, he7, hp7_0, hmn7, hfn7, hf7_1, hf7_2⟩
 clear hcall hx
 refine inl1 ?_
 have hpk2 : MS w3 ([[b0_3]] ++ [M]) := hms.pick [some 0, some 1] _ rfl
 have hsb2 : ∀ x ∈ fl ([[b0_3]] ++ [M]), x ∈ fl [[b0_3], M] := pick_sub [some 0, some 1] _ rfl
 have hst0 := Stp.call (LS := [[b0_3], M]) (res := [blk a0_7, blk a2_7]) (par := [[b0_3]]) (R := [M]) he7 (fun b hb => hsb2 b (fl_left' (P := [[b0_3]]) b hb)) hfn7 (NP.init _ _) (fun x hx => hsb2 x (fl_right' (P := [[b0_3]]) x hx))
 have hsn : ∀ x ∈ fl [blk a0_7, blk a2_7, [b0_3], M], x ∈ fl ([blk a0_7, blk a2_7] ++ ([[b0_3]] ++ [M])) := pick_sub [some 0, some 1, some 2, some 3] _ rfl
 have hst := hst0.res hsn
 replace hf3_2 := hf3_2.step hst
 replace hms : MS w7 [blk a0_7, blk a2_7, [b0_3], M] := (MS.call (P := [[b0_3]]) (R := [M]) (res := [blk a0_7, blk a2_7]) (par := [[b0_3]]) hpk2 he7 hmn7 hfn7 (NP.init _ _)).pick [some 0, some 1, some 2, some 3] _ rfl
 have hPf : ∀ b ∈ fl [[b0_3]], w.heap.size ≤ b := FR.mem (ls := [[b0_3]]) (hfr.pick [some 0] _ rfl)
 have hfr2 : FR w.heap.size [blk a0_7, blk a2_7, [b0_3]] := (FR.cons (fun b hb => Nat.le_trans hev.size (hfn7.at 0 rfl b hb)) (FR.cons (fun b hb => Nat.le_trans hev.size (hfn7.at 1 rfl b hb)) (FR.cons (hfr.at 0 rfl) (FR.nil _))))
 replace hev := hev.then he7 (fun b hb => .inr (hPf b hb))
 replace hfr := hfr2
 clear hfr2
 replace hf3_1 := hp7_0
 replace hf7_1 := OwnS.plain (M' := fl [blk a0_7, blk a2_7, [b0_3], M]) (plain_int _) hf7_1
 replace hf7_2 := OwnS.plain (M' := fl [blk a0_7, blk a2_7, [b0_3], M]) (plain_int _) hf7_2
 clear hpk hsb hsb0 hpk2 hsb2 hst0 hsn hst
 have hpk : MS w7 [blk a2_7, [b0_3], M] := hms.pick [some 1, some 2, some 3] _ rfl
 have hsu : ∀ x ∈ fl [blk a2_7, [b0_3], M], x ∈ fl [blk a0_7, blk a2_7, [b0_3], M] := pick_sub [some 1, some 2, some 3] _ rfl
 replace hf3_2 := hf3_2.sub hsu
 replace hf7_1 := hf7_1.ro hsu (pick_out hms 0 rfl [some 1, some 2, some 3] [blk a2_7, [b0_3], M] rfl rfl)
 replace hf7_2 := hf7_2.sub hsu
 replace hms := hpk
 replace hfr : FR w.heap.size [blk a2_7, [b0_3]] := hfr.pick [some 1, some 2] _ rfl
 clear hpk hsu
 have hpk : MS w7 [[b0_3], M] := hms.pick [some 1, some 2] _ rfl
 have hsu : ∀ x ∈ fl [[b0_3], M], x ∈ fl [blk a2_7, [b0_3], M] := pick_sub [some 1, some 2] _ rfl
 replace hf3_2 := hf3_2.sub hsu
 replace hf7_1 := hf7_1.sub hsu
 replace hf7_2 := hf7_2.ro hsu (pick_out hms 0 rfl [some 1, some 2] [[b0_3], M] rfl rfl)
 replace hms := hpk
 replace hfr : FR w.heap.size [[b0_3]] := hfr.pick [some 1] _ rfl
 clear hpk hsu
 refine x_pure 5 [(11, .tuple #[.slice a0_7 (x6.1).length c0_7, .slice a2_7 (x6.2.1).length c2_7]), (14, .slice a0_7 (x6.1).length c0_7), (15, .slice a2_7 (x6.2.1).length c2_7), (4, .slice a0_7 (x6.1).length c0_7), (5, .slice a2_7 (x6.2.1).length c2_7)] _ _ _ (by kernel_rfl) ?_
 refine x_ek ?_
 refine c_sp ?_
 refine x_pure 2 [(17, .slice a0_7 (x6.1).length c0_7), (18, .slice a2_7 (x6.2.1).length c2_7)] _ _ _ (by kernel_rfl) ?_
 obtain ⟨x10, hx, h⟩ := bind_some h
 have hpk : MS w7 ([] ++ [[b0_3], M]) := hms.pick [some 0, some 1] _ rfl
 have hsb0 : ∀ x ∈ fl ([] ++ [[b0_3], M]), x ∈ fl [[b0_3], M] := pick_sub [some 0, some 1] _ rfl
 have hsb : ∀ x ∈ fl ([] ++ [(fl [[b0_3], M])]), x ∈ fl [[b0_3], M] := fun x hx => hsb0 x (fl_unfold x hx)
 have hcall := assign_Match_w a0_7 c0_7 x6.1 a2_7 c2_7 x6.2.1 _ w7 (fl [[b0_3], M]) (MS.fold (P := []) hpk) (hf7_1.sub hsb) (hf7_2.sub hsb) hx
 refine x_call 8 #[] #[] [.slice a0_7 (x6.1).length c0_7, .slice a2_7 (x6.2.1).length c2_7] _ rfl rfl rfl rfl hcall ?_
 rintro v w11 ⟨a0_11, c0_11, a2_11, c2_11, rfl, he11, hmn11, hfn11, hf11_1, hf11_2⟩
 clear hcall hx
 refine inl1 ?_
 have hpk2 : MS w7 ([] ++ [[b0_3], M]) := hms.pick [some 0, some 1] _ rfl
 have hsb2 : ∀ x ∈ fl ([] ++ [[b0_3], M]), x ∈ fl [[b0_3], M] := pick_sub [some 0, some 1] _ rfl
 have hst0 := Stp.call (LS := [[b0_3], M]) (res := [blk a0_11, blk a2_11]) (par := []) (R := [[b0_3], M]) he11 (fun b hb => hsb2 b (fl_left' (P := []) b hb)) hfn11 (NP.init _ _) (fun x hx => hsb2 x (fl_right' (P := []) x hx))
 have hsn : ∀ x ∈ fl [blk a0_11, blk a2_11, [b0_3], M], x ∈ fl ([blk a0_11, blk a2_11] ++ ([] ++ [[b0_3], M])) := pick_sub [some 0, some 1, some 2, some 3] _ rfl
 have hst := hst0.res hsn
 replace hf3_1 := he11.box hf3_1 ((MS.outs (P := []) hpk2 0 rfl) _ mem1)
 replace hf3_2 := hf3_2.step hst
 replace hf7_1 := hf7_1.step hst
 replace hf7_2 := hf7_2.step hst
 replace hms : MS w11 [blk a0_11, blk a2_11, [b0_3], M] := (MS.call (P := []) (R := [[b0_3], M]) (res := [blk a0_11, blk a2_11]) (par := []) hpk2 he11 hmn11 hfn11 (NP.init _ _)).pick [some 0, some 1, some 2, some 3] _ rfl
 have hfr2 : FR w.heap.size [blk a0_11, blk a2_11, [b0_3]] := (FR.cons (fun b hb => Nat.le_trans hev.size (hfn11.at 0 rfl b hb)) (FR.cons (fun b hb => Nat.le_trans hev.size (hfn11.at 1 rfl b hb)) (FR.cons (hfr.at 0 rfl) (FR.nil _))))
 replace hev := hev.ext he11
 replace hfr := hfr2
 clear hfr2
 replace hf11_1 := OwnS.plain (M' := fl [blk a0_11, blk a2_11, [b0_3], M]) (plain_int _) hf11_1
 replace hf11_2 := OwnS.plain (M' := fl [blk a0_11, blk a2_11, [b0_3], M]) (plain_int _) hf11_2
 clear hpk hsb hsb0 hpk2 hsb2 hst0 hsn hst
 have hpk : MS w11 [blk a2_11, [b0_3], M] := hms.pick [some 1, some 2, some 3] _ rfl
 have hsu : ∀ x ∈ fl [blk a2_11, [b0_3], M], x ∈ fl [blk a0_11, blk a2_11, [b0_3], M] := pick_sub [some 1, some 2, some 3] _ rfl
 replace hf3_2 := hf3_2.sub hsu
 replace hf7_1 := hf7_1.sub hsu
 replace hf7_2 := hf7_2.sub hsu
 replace hf11_1 := hf11_1.ro hsu (pick_out hms 0 rfl [some 1, some 2, some 3] [blk a2_11, [b0_3], M] rfl rfl)
 replace hf11_2 := hf11_2.sub hsu
 replace hms := hpk
 replace hfr : FR w.heap.size [blk a2_11, [b0_3]] := hfr.pick [some 1, some 2] _ rfl
 clear hpk hsu
 have hpk : MS w11 [[b0_3], M] := hms.pick [some 1, some 2] _ rfl
 have hsu : ∀ x ∈ fl [[b0_3], M], x ∈ fl [blk a2_11, [b0_3], M] := pick_sub [some 1, some 2] _ rfl
 replace hf3_2 := hf3_2.sub hsu
 replace hf7_1 := hf7_1.sub hsu
 replace hf7_2 := hf7_2.sub hsu
 replace hf11_1 := hf11_1.sub hsu
 replace hf11_2 := hf11_2.ro hsu (pick_out hms 0 rfl [some 1, some 2] [[b0_3], M] rfl rfl)
 replace hms := hpk
 replace hfr : FR w.heap.size [[b0_3]] := hfr.pick [some 1] _ rfl
 clear hpk hsu
 refine x_pure 7 [(16, .tuple #[.slice a0_11 (x10.1).length c0_11, .slice a2_11 (x10.2.1).length c2_11, Vi x10.2.2]), (20, .slice a0_11 (x10.1).length c0_11), (21, .slice a2_11 (x10.2.1).length c2_11), (22, Vi x10.2.2), (6, .slice a0_11 (x10.1).length c0_11), (7, .slice a2_11 (x10.2.1).length c2_11), (8, Vi x10.2.2)] _ _ _ (by kernel_rfl) ?_
 refine x_ek ?_
 refine c_norm [(4, .slice a0_7 (x6.1).length c0_7), (5, .slice a2_7 (x6.2.1).length c2_7), (6, .slice a0_11 (x10.1).length c0_11), (7, .slice a2_11 (x10.2.1).length c2_11), (8, Vi x10.2.2)] ⟨rfl, rfl, rfl, rfl, rfl, trivial⟩ (fun J => ?_)
 refine c_seq ?_
 refine c_sp ?_
 refine x_pure 2 [(23, Vi x10.2.2), (24, .bool (x10.2.2 == 0))] _ _ _ (by kernel_rfl) ?_
 refine x_ek ?_
 refine c_cond (x10.2.2 == 0) rfl (fun hb => ?_) (fun hb => ?_)
 · replace h := ite_t hb h
   refine c_sp ?_
   refine x_pure 1 [(25, .slice a2_11 (x10.2.1).length c2_11)] _ _ _ (by kernel_rfl) ?_
   refine x_len (vs := [.slice a2_11 (x10.2.1).length c2_11]) (Vi ((x10.2.1).length : Int)) rfl rfl rfl (reads_len tsl22 _ _ _ _ _) ?_
   refine x_pure 2 [(27, .bool (((x10.2.1).length : Int) == 0)), (28, .bool (((x10.2.1).length : Int) == 0))] _ _ _ (by kernel_rfl) ?_
   refine x_split 28 (((x10.2.1).length : Int) == 0) rfl (fun hb => ?_) (fun hb => ?_)
   · replace h := ite_t hb h
     refine x_pure 3 [(29, .slice a0_7 (x6.1).length c0_7), (30, .slice a2_7 (x6.2.1).length c2_7), (31, .slice a0_11 (x10.1).length c0_11)] _ _ _ (by kernel_rfl) ?_
     obtain ⟨x15, hx, h⟩ := bind_some h
     have hpk : MS w11 ([] ++ [[b0_3], M]) := hms.pick [some 0, some 1] _ rfl
     have hsb0 : ∀ x ∈ fl ([] ++ [[b0_3], M]), x ∈ fl [[b0_3], M] := pick_sub [some 0, some 1] _ rfl
     have hsb : ∀ x ∈ fl ([] ++ [(fl [[b0_3], M])]), x ∈ fl [[b0_3], M] := fun x hx => hsb0 x (fl_unfold x hx)
     have hcall := assign_Fits_w a0_7 c0_7 x6.1 a2_7 c2_7 x6.2.1 a0_11 c0_11 x10.1 _ w11 (fl [[b0_3], M]) (MS.fold (P := []) hpk) (hf7_1.sub hsb) (hf7_2.sub hsb) (hf11_1.sub hsb) hx
     refine x_call 11 #[] #[] [.slice a0_7 (x6.1).length c0_7, .slice a2_7 (x6.2.1).length c2_7, .slice a0_11 (x10.1).length c0_11] _ rfl rfl rfl rfl hcall ?_
     rintro v w16 ⟨rfl, he16⟩
     clear hcall hx
     refine inl1 ?_
     have hst := Stp.ext (ls := [[b0_3], M]) he16
     replace hf3_1 := he16.box hf3_1 nn
     replace hf3_2 := hf3_2.step hst
     replace hf7_1 := hf7_1.step hst
     replace hf7_2 := hf7_2.step hst
     replace hf11_1 := hf11_1.step hst
     replace hf11_2 := hf11_2.step hst
     replace hms := hms.ev he16
     replace hev := hev.ext he16
     clear hpk hsb hsb0
     refine x_pure 2 [(33, .bool x15), (34, .bool x15)] _ _ _ (by kernel_rfl) ?_
     refine x_split 34 x15 rfl (fun hb => ?_) (fun hb => ?_)
     · replace h := ite_t hb h
       refine x_pure 2 [(35, .slice a0_7 (x6.1).length c0_7), (36, .slice a2_7 (x6.2.1).length c2_7)] _ _ _ (by kernel_rfl) ?_
       obtain ⟨x17, hx, h⟩ := bind_some h
       have hpk : MS w16 ([] ++ [[b0_3], M]) := hms.pick [some 0, some 1] _ rfl
       have hsb0 : ∀ x ∈ fl ([] ++ [[b0_3], M]), x ∈ fl [[b0_3], M] := pick_sub [some 0, some 1] _ rfl
       have hsb : ∀ x ∈ fl ([] ++ [(fl [[b0_3], M])]), x ∈ fl [[b0_3], M] := fun x hx => hsb0 x (fl_unfold x hx)
       have hcall := law16_refused_w a0_7 c0_7 x6.1 a2_7 c2_7 x6.2.1 _ w16 (fl [[b0_3], M]) (MS.fold (P := []) hpk) (hf7_1.sub hsb) (hf7_2.sub hsb) hx
       refine x_call 19 #[] #[] [.slice a0_7 (x6.1).length c0_7, .slice a2_7 (x6.2.1).length c2_7] _ rfl rfl rfl rfl hcall ?_
       rintro v w18 ⟨rfl, he18⟩
       clear hcall hx
       refine inl1 ?_
       have hst := Stp.ext (ls := [[b0_3], M]) he18
       replace hf3_1 := he18.box hf3_1 nn
       replace hf3_2 := hf3_2.step hst
       replace hf7_1 := hf7_1.step hst
       replace hf7_2 := hf7_2.step hst
       replace hf11_1 := hf11_1.step hst
       replace hf11_2 := hf11_2.step hst
       replace hms := hms.ev he18
       replace hev := hev.ext he18
       clear hpk hsb hsb0
       refine x_pure 3 [(38, .bool (!x17)), (39, .bool (!x17)), (40, .bool (!x17))] _ _ _ (by kernel_rfl) ?_
       refine x_split 40 (!x17) rfl (fun hb => ?_) (fun hb => ?_)
       · replace h := ite_t hb h
         obtain ⟨x19, hx, h⟩ := bind_some h
         have hcall := law16_sane_w _ w18 hx
         refine x_call 9 #[] #[] [] _ rfl rfl rfl rfl hcall ?_
         rintro v w20 ⟨rfl, he20⟩
         clear hcall hx
         refine inl1 ?_
         have hst := Stp.ext (ls := [[b0_3], M]) he20
         replace hf3_1 := he20.box hf3_1 nn
         replace hf3_2 := hf3_2.step hst
         replace hf7_1 := hf7_1.step hst
         replace hf7_2 := hf7_2.step hst
         replace hf11_1 := hf11_1.step hst
         replace hf11_2 := hf11_2.step hst
         replace hms := hms.ev he20
         replace hev := hev.ext he20
         refine x_pure 2 [(42, .bool x19), (2, .bool x19)] _ _ _ (by kernel_rfl) ?_
         refine x_ek ?_
         refine c_norm [(2, .bool x19)] ⟨rfl, trivial⟩ (fun J => ?_)
         refine c_ret ?_
         refine k_then_ret ?_
         refine r_ret (r_vals [.bool x19] ⟨rfl, trivial⟩ ?_)
         have hx := some_inj h
         subst hx
         have hmr : MS w20 [M] := hms.pick [some 1] _ rfl
         have hsu : ∀ x ∈ fl [M], x ∈ fl [[b0_3], M] := pick_sub [some 1] _ rfl
         exact ⟨rfl, hev⟩
       replace h := ite_f hb h
       refine x_pure 3 [(41, undef), (42, .bool false), (2, .bool false)] _ _ _ (by kernel_rfl) ?_
       refine x_ek ?_
       refine c_norm [(2, .bool false)] ⟨rfl, trivial⟩ (fun J => ?_)
       refine c_ret ?_
       refine k_then_ret ?_
       refine r_ret (r_vals [.bool false] ⟨rfl, trivial⟩ ?_)
       have hx := some_inj h
       subst hx
       have hmr : MS w18 [M] := hms.pick [some 1] _ rfl
       have hsu : ∀ x ∈ fl [M], x ∈ fl [[b0_3], M] := pick_sub [some 1] _ rfl
       exact ⟨rfl, hev⟩
     replace h := ite_f hb h
     refine x_pure 9 [(35, undef), (36, undef), (37, undef), (38, undef), (39, .bool false), (40, .bool false), (41, undef), (42, .bool false), (2, .bool false)] _ _ _ (by kernel_rfl) ?_
     refine x_ek ?_
     refine c_norm [(2, .bool false)] ⟨rfl, trivial⟩ (fun J => ?_)
     refine c_ret ?_
     refine k_then_ret ?_
     refine r_ret (r_vals [.bool false] ⟨rfl, trivial⟩ ?_)
     have hx := some_inj h
     subst hx
     have hmr : MS w16 [M] := hms.pick [some 1] _ rfl
     have hsu : ∀ x ∈ fl [M], x ∈ fl [[b0_3], M] := pick_sub [some 1] _ rfl
     exact ⟨rfl, hev⟩
   replace h := ite_f hb h
   refine x_pure 15 [(29, undef), (30, undef), (31, undef), (32, undef), (33, .bool false), (34, .bool false), (35, undef), (36, undef), (37, undef), (38, undef), (39, .bool false), (40, .bool false), (41, undef), (42, .bool false), (2, .bool false)] _ _ _ (by kernel_rfl) ?_
   refine x_ek ?_
   refine c_norm [(2, .bool false)] ⟨rfl, trivial⟩ (fun J => ?_)
   refine c_ret ?_
   refine k_then_ret ?_
   refine r_ret (r_vals [.bool false] ⟨rfl, trivial⟩ ?_)
   have hx := some_inj h
   subst hx
   have hmr : MS w11 [M] := hms.pick [some 1] _ rfl
   have hsu : ∀ x ∈ fl [M], x ∈ fl [[b0_3], M] := pick_sub [some 1] _ rfl
   exact ⟨rfl, hev⟩
 replace h := ite_f hb h
 refine c_skip ?_
 refine k_then ?_
 refine c_sp ?_
 refine x_pure 3 [(43, Vi x10.2.2), (44, .bool (x10.2.2 == 14)), (45, .bool (x10.2.2 == 14))] _ _ _ (by kernel_rfl) ?_
 refine x_split 45 (x10.2.2 == 14) rfl (fun hb => ?_) (fun hb => ?_)
 · replace h := ite_t hb h
   refine x_pure 1 [(46, .slice a0_11 (x10.1).length c0_11)] _ _ _ (by kernel_rfl) ?_
   refine x_len (vs := [.slice a0_11 (x10.1).length c0_11]) (Vi ((x10.1).length : Int)) rfl rfl rfl (reads_len tsl22 _ _ _ _ _) ?_
   refine x_pure 3 [(48, .bool (((x10.1).length : Int) == 0)), (49, .bool (((x10.1).length : Int) == 0)), (50, .bool (((x10.1).length : Int) == 0))] _ _ _ (by kernel_rfl) ?_
   refine x_split 50 (((x10.1).length : Int) == 0) rfl (fun hb => ?_) (fun hb => ?_)
   · replace h := ite_t hb h
     refine x_pure 3 [(51, .slice a0_7 (x6.1).length c0_7), (52, .slice a2_7 (x6.2.1).length c2_7), (53, .slice a2_11 (x10.2.1).length c2_11)] _ _ _ (by kernel_rfl) ?_
     obtain ⟨x21, hx, h⟩ := bind_some h
     have hpk : MS w11 ([] ++ [[b0_3], M]) := hms.pick [some 0, some 1] _ rfl
     have hsb0 : ∀ x ∈ fl ([] ++ [[b0_3], M]), x ∈ fl [[b0_3], M] := pick_sub [some 0, some 1] _ rfl
     have hsb : ∀ x ∈ fl ([] ++ [(fl [[b0_3], M])]), x ∈ fl [[b0_3], M] := fun x hx => hsb0 x (fl_unfold x hx)
     have hcall := assign_Refuses_w a0_7 c0_7 x6.1 a2_7 c2_7 x6.2.1 a2_11 c2_11 x10.2.1 _ w11 (fl [[b0_3], M]) (MS.fold (P := []) hpk) (hf7_1.sub hsb) (hf7_2.sub hsb) (hf11_2.sub hsb) hx
     refine x_call 10 #[] #[] [.slice a0_7 (x6.1).length c0_7, .slice a2_7 (x6.2.1).length c2_7, .slice a2_11 (x10.2.1).length c2_11] _ rfl rfl rfl rfl hcall ?_
     rintro v w22 ⟨rfl, he22⟩
     clear hcall hx
     refine inl1 ?_
     have hst := Stp.ext (ls := [[b0_3], M]) he22
     replace hf3_1 := he22.box hf3_1 nn
     replace hf3_2 := hf3_2.step hst
     replace hf7_1 := hf7_1.step hst
     replace hf7_2 := hf7_2.step hst
     replace hf11_1 := hf11_1.step hst
     replace hf11_2 := hf11_2.step hst
     replace hms := hms.ev he22
     replace hev := hev.ext he22
     clear hpk hsb hsb0
     refine x_pure 2 [(55, .bool x21), (56, .bool x21)] _ _ _ (by kernel_rfl) ?_
     refine x_split 56 x21 rfl (fun hb => ?_) (fun hb => ?_)
     · replace h := ite_t hb h
       refine x_pure 2 [(57, .slice a0_7 (x6.1).length c0_7), (58, .slice a2_7 (x6.2.1).length c2_7)] _ _ _ (by kernel_rfl) ?_
       obtain ⟨x23, hx, h⟩ := bind_some h
       have hpk : MS w22 ([] ++ [[b0_3], M]) := hms.pick [some 0, some 1] _ rfl
       have hsb0 : ∀ x ∈ fl ([] ++ [[b0_3], M]), x ∈ fl [[b0_3], M] := pick_sub [some 0, some 1] _ rfl
       have hsb : ∀ x ∈ fl ([] ++ [(fl [[b0_3], M])]), x ∈ fl [[b0_3], M] := fun x hx => hsb0 x (fl_unfold x hx)
       have hcall := law16_refused_w a0_7 c0_7 x6.1 a2_7 c2_7 x6.2.1 _ w22 (fl [[b0_3], M]) (MS.fold (P := []) hpk) (hf7_1.sub hsb) (hf7_2.sub hsb) hx
       refine x_call 19 #[] #[] [.slice a0_7 (x6.1).length c0_7, .slice a2_7 (x6.2.1).length c2_7] _ rfl rfl rfl rfl hcall ?_
       rintro v w24 ⟨rfl, he24⟩
       clear hcall hx
       refine inl1 ?_
       have hst := Stp.ext (ls := [[b0_3], M]) he24
       replace hf3_1 := he24.box hf3_1 nn
       replace hf3_2 := hf3_2.step hst
       replace hf7_1 := hf7_1.step hst
       replace hf7_2 := hf7_2.step hst
       replace hf11_1 := hf11_1.step hst
       replace hf11_2 := hf11_2.step hst
       replace hms := hms.ev he24
       replace hev := hev.ext he24
       clear hpk hsb hsb0
       refine x_pure 2 [(60, .bool x23), (61, .bool x23)] _ _ _ (by kernel_rfl) ?_
       refine x_split 61 x23 rfl (fun hb => ?_) (fun hb => ?_)
       · replace h := ite_t hb h
         obtain ⟨x25, hx, h⟩ := bind_some h
         have hcall := law16_sane_w _ w24 hx
         refine x_call 9 #[] #[] [] _ rfl rfl rfl rfl hcall ?_
         rintro v w26 ⟨rfl, he26⟩
         clear hcall hx
         refine inl1 ?_
         have hst := Stp.ext (ls := [[b0_3], M]) he26
         replace hf3_1 := he26.box hf3_1 nn
         replace hf3_2 := hf3_2.step hst
         replace hf7_1 := hf7_1.step hst
         replace hf7_2 := hf7_2.step hst
         replace hf11_1 := hf11_1.step hst
         replace hf11_2 := hf11_2.step hst
         replace hms := hms.ev he26
         replace hev := hev.ext he26
         refine x_pure 2 [(63, .bool x25), (2, .bool x25)] _ _ _ (by kernel_rfl) ?_
         refine x_ek ?_
         refine c_norm [(2, .bool x25)] ⟨rfl, trivial⟩ (fun J => ?_)
         refine c_ret ?_
         refine r_ret (r_vals [.bool x25] ⟨rfl, trivial⟩ ?_)
         have hx := some_inj h
         subst hx
         have hmr : MS w26 [M] := hms.pick [some 1] _ rfl
         have hsu : ∀ x ∈ fl [M], x ∈ fl [[b0_3], M] := pick_sub [some 1] _ rfl
         exact ⟨rfl, hev⟩
       replace h := ite_f hb h
       refine x_pure 3 [(62, undef), (63, .bool false), (2, .bool false)] _ _ _ (by kernel_rfl) ?_
       refine x_ek ?_
       refine c_norm [(2, .bool false)] ⟨rfl, trivial⟩ (fun J => ?_)
       refine c_ret ?_
       refine r_ret (r_vals [.bool false] ⟨rfl, trivial⟩ ?_)
       have hx := some_inj h
       subst hx
       have hmr : MS w24 [M] := hms.pick [some 1] _ rfl
       have hsu : ∀ x ∈ fl [M], x ∈ fl [[b0_3], M] := pick_sub [some 1] _ rfl
       exact ⟨rfl, hev⟩
     replace h := ite_f hb h
     refine x_pure 8 [(57, undef), (58, undef), (59, undef), (60, .bool false), (61, .bool false), (62, undef), (63, .bool false), (2, .bool false)] _ _ _ (by kernel_rfl) ?_
     refine x_ek ?_
     refine c_norm [(2, .bool false)] ⟨rfl, trivial⟩ (fun J => ?_)
     refine c_ret ?_
     refine r_ret (r_vals [.bool false] ⟨rfl, trivial⟩ ?_)
     have hx := some_inj h
     subst hx
     have hmr : MS w22 [M] := hms.pick [some 1] _ rfl
     have hsu : ∀ x ∈ fl [M], x ∈ fl [[b0_3], M] := pick_sub [some 1] _ rfl
     exact ⟨rfl, hev⟩
   replace h := ite_f hb h
   refine x_pure 14 [(51, undef), (52, undef), (53, undef), (54, undef), (55, .bool false), (56, .bool false), (57, undef), (58, undef), (59, undef), (60, .bool false), (61, .bool false), (62, undef), (63, .bool false), (2, .bool false)] _ _ _ (by kernel_rfl) ?_
   refine x_ek ?_
   refine c_norm [(2, .bool false)] ⟨rfl, trivial⟩ (fun J => ?_)
   refine c_ret ?_
   refine r_ret (r_vals [.bool false] ⟨rfl, trivial⟩ ?_)
   have hx := some_inj h
   subst hx
   have hmr : MS w11 [M] := hms.pick [some 1] _ rfl
   have hsu : ∀ x ∈ fl [M], x ∈ fl [[b0_3], M] := pick_sub [some 1] _ rfl
   exact ⟨rfl, hev⟩
 replace h := ite_f hb h
 refine x_pure 19 [(46, undef), (47, undef), (48, undef), (49, .bool false), (50, .bool false), (51, undef), (52, undef), (53, undef), (54, undef), (55, .bool false), (56, .bool false), (57, undef), (58, undef), (59, undef), (60, .bool false), (61, .bool false), (62, undef), (63, .bool false), (2, .bool false)] _ _ _ (by kernel_rfl) ?_
 refine x_ek ?_
 refine c_norm [(2, .bool false)] ⟨rfl, trivial⟩ (fun J => ?_)
 refine c_ret ?_
 refine r_ret (r_vals [.bool false] ⟨rfl, trivial⟩ ?_)
 have hx := some_inj h
 subst hx
 have hmr : MS w11 [M] := hms.pick [some 1] _ rfl
 have hsu : ∀ x ∈ fl [M], x ∈ fl [[b0_3], M] := pick_sub [some 1] _ rfl
 exact ⟨rfl, hev⟩
end Go.Proofs.Ytdbomhhcebmkpaa
