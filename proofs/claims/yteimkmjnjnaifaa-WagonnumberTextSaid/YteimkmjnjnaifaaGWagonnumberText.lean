/- Walks, printed by program: each function returns what the partial function of the same name returns. Conditions: those of each theorem. -/
import Derived.Test.YteimkmjnjnaifaaGT
import Derived.Test.YteimkmjnjnaifaaGgen
import Derived.Test.YteimkmjnjnaifaaGlaw02sane
import Derived.Test.YteimkmjnjnaifaaGwagonnumber
set_option linter.unusedVariables false
set_option linter.unusedSimpArgs false
set_option maxRecDepth 4000
namespace Go.Proofs.Yteimkmjnjnaifaa
open Go Go.V Go.Proofs
def law02_WagonnumberText_L22 (s : (List (List UInt8)) × Int × Int) : Option (Step ((List (List UInt8)) × Int × Int) (Unit ⊕ Unit)) :=
match s with
| (d21_l22, t62__s62_l22, t63__s63_l22) =>
(if (decide (t63__s63_l22 < t62__s62_l22)) = true then
((idx d21_l22 t63__s63_l22).bind fun x24 =>
((wagonnumber_Parse x24).bind fun x26 =>
(if (x26.2 != 0) = true then
some (.next (d21_l22, t62__s62_l22, IntKind.i64.wrap (t63__s63_l22 + 1)))
else
((wagonnumber_Format x26.1).bind fun x29 =>
(if (x29.2 != 0) = true then
some (.done (.inl ()))
else
(if (x29.1 != x24) = true then
some (.done (.inl ()))
else
some (.next (d21_l22, t62__s62_l22, IntKind.i64.wrap (t63__s63_l22 + 1)))))))))
else
some (.done (.inr ())))

def law02_WagonnumberText_J13 (p0 : List Int) (p1 : List UInt8) (x6 : (List UInt8) × Int) (x8 : (List UInt8) × Int) (x10 : (List UInt8) × Int) (t44__s44_j13 : Bool) : Option Bool :=
(if t44__s44_j13 = true then
(if (x8.2 == 0) = true then
(if (x10.2 == 0) = true then
some (x10.1 == x6.1)
else
some false)
else
some false)
else
((gen_New p0).bind fun x14 =>
((gen_Maker_Spoil x14.1 x14.2 x8.1).bind fun x18 =>
((loop law02_WagonnumberText_L22 (([p1, x18.1] : List (List UInt8)), ((([p1, x18.1] : List (List UInt8))).length : Int), 0)).bind fun d => match d with
| (.inl _) => some false
| (.inr _) => ((law02_sane).bind fun x31 =>
some x31)))))

def law02_WagonnumberText (p0 : List Int) (p1 : List UInt8) : Option Bool :=
((gen_New p0).bind fun x2 =>
((gen_Maker_Number x2.1 x2.2 4).bind fun x6 =>
((wagonnumber_Format x6.1).bind fun x8 =>
((wagonnumber_Parse x8.1).bind fun x10 =>
(if (x8.2 != 0) = true then
law02_WagonnumberText_J13 p0 p1 x6 x8 x10 true
else
(if (x10.2 != 0) = true then
law02_WagonnumberText_J13 p0 p1 x6 x8 x10 true
else
(if (x10.1 != x6.1) = true then
law02_WagonnumberText_J13 p0 p1 x6 x8 x10 true
else
law02_WagonnumberText_J13 p0 p1 x6 x8 x10 (decide ((p1.length : Int) > 60)))))))))

theorem law02_WagonnumberText_w (a_p0 : Option Addr) (c_p0 : Nat) (p0 : List Int) (p1 : List UInt8) (r : Bool) (w : World) (M : List Nat) (hms : MS w [M]) (hs_p0 : SlR (eInt .i64) w (fl [M]) a_p0 c_p0 p0) (h : law02_WagonnumberText p0 p1 = some r) : CallVC Try.prog 8 [.slice a_p0 (p0).length c_p0, Vs p1] w fun v w' => v = .bool r ∧ Ev [] w w' := by
 refine calls_vc hmx Try.func8 (by kernel_rfl) rfl (rs := [.tmp 4]) rfl (by kernel_rfl) (args := [.slice a_p0 (p0).length c_p0, Vs p1]) rfl ?_
 have hev : Ev [] w w := Ev.refl _ _
 have hfr : FR w.heap.size [] := FR.nil _
 refine c_sp ?_
 refine x_pure 1 [(4, .bool false)] _ _ _ (by kernel_rfl) ?_
 refine x_ek ?_
 refine c_sp ?_
 refine x_pure 1 [(16, .slice a_p0 (p0).length c_p0)] _ _ _ (by kernel_rfl) ?_
 obtain ⟨x2, hx, h⟩ := bind_some h
 have hpk : MS w ([] ++ [M]) := hms.pick [some 0] _ rfl
 have hsb0 : ∀ x ∈ fl ([] ++ [M]), x ∈ fl [M] := pick_sub [some 0] _ rfl
 have hsb : ∀ x ∈ fl ([] ++ [(fl [M])]), x ∈ fl [M] := fun x hx => hsb0 x (fl_unfold x hx)
 have hcall := gen_New_w a_p0 c_p0 p0 _ w (fl [M]) (MS.fold (P := []) hpk) (hs_p0.sub hsb) hx
 refine x_call 9 #[] #[] [.slice a_p0 (p0).length c_p0] _ rfl rfl rfl rfl hcall ?_
 rintro v w3 ⟨b0_3, a1_3, c1_3, rfl, he3, hmn3, hfn3, hf3_1, hf3_2⟩
 clear hcall hx
 refine inl1 ?_
 have hpk2 : MS w ([] ++ [M]) := hms.pick [some 0] _ rfl
 have hsb2 : ∀ x ∈ fl ([] ++ [M]), x ∈ fl [M] := pick_sub [some 0] _ rfl
 have hst0 := Stp.call (LS := [M]) (res := [[b0_3]]) (par := []) (R := [M]) he3 (fun b hb => hsb2 b (fl_left' (P := []) b hb)) hfn3 (NP.init _ _) (fun x hx => hsb2 x (fl_right' (P := []) x hx))
 have hsn : ∀ x ∈ fl [[b0_3], M], x ∈ fl ([[b0_3]] ++ ([] ++ [M])) := pick_sub [some 0, some 1] _ rfl
 have hst := hst0.res hsn
 replace hs_p0 := hs_p0.step hst
 replace hms : MS w3 [[b0_3], M] := (MS.call (P := []) (R := [M]) (res := [[b0_3]]) (par := []) hpk2 he3 hmn3 hfn3 (NP.init _ _)).pick [some 0, some 1] _ rfl
 have hfr2 : FR w.heap.size [[b0_3]] := (FR.cons (fun b hb => Nat.le_trans hev.size (hfn3.at 0 rfl b hb)) (FR.nil _))
 replace hev := hev.ext he3
 replace hfr := hfr2
 clear hfr2
 have hsp : ∀ x ∈ fl [[b0_3], M], x ∈ fl ([[b0_3]] ++ ([] ++ [(fl [M])])) := fun x hx => fl_tot (res := [[b0_3]]) (par := []) (R := [M]) x (hsn x hx)
 replace hf3_2 := hf3_2.sub hsp
 clear hpk hsb hsb0 hpk2 hsb2 hst0 hsn hst
 obtain ⟨x6, hx, h⟩ := bind_some h
 have hpk : MS w3 ([[b0_3]] ++ [M]) := hms.pick [some 0, some 1] _ rfl
 have hsb0 : ∀ x ∈ fl ([[b0_3]] ++ [M]), x ∈ fl [[b0_3], M] := pick_sub [some 0, some 1] _ rfl
 have hsb : ∀ x ∈ fl ([[b0_3]] ++ [(fl [M])]), x ∈ fl [[b0_3], M] := fun x hx => hsb0 x (fl_unfold x hx)
 have hcall := gen_Maker_Number_w b0_3 a1_3 c1_3 x2.1 x2.2 4 _ w3 (fl [M]) (hpk.fold (P := [[b0_3]])) (hf3_2.sub hsb) hf3_1 hx
 refine x_call 10 #[] #[] [Vp b0_3 0, Vi 4] _ rfl rfl rfl rfl hcall ?_
 rintro v w7 ⟨rfl, he7, hp7_0⟩
 clear hcall hx
 refine inl1 ?_
 have hpk2 : MS w3 ([[b0_3]] ++ [M]) := hms.pick [some 0, some 1] _ rfl
 have hsb2 : ∀ x ∈ fl ([[b0_3]] ++ [M]), x ∈ fl [[b0_3], M] := pick_sub [some 0, some 1] _ rfl
 have hst0 := Stp.call (LS := [[b0_3], M]) (res := []) (par := [[b0_3]]) (R := [M]) he7 (fun b hb => hsb2 b (fl_left' (P := [[b0_3]]) b hb)) (FR.nil _) (NP.init _ _) (fun x hx => hsb2 x (fl_right' (P := [[b0_3]]) x hx))
 have hsn : ∀ x ∈ fl [[b0_3], M], x ∈ fl ([] ++ ([[b0_3]] ++ [M])) := pick_sub [some 0, some 1] _ rfl
 have hst := hst0.res hsn
 replace hs_p0 := hs_p0.step hst
 replace hf3_2 := hf3_2.step hst
 replace hms := hms.ev he7
 have hPf : ∀ b ∈ fl [[b0_3]], w.heap.size ≤ b := FR.mem (ls := [[b0_3]]) (hfr.pick [some 0] _ rfl)
 replace hev := hev.then he7 (fun b hb => .inr (hPf b hb))
 replace hf3_1 := hp7_0
 clear hpk hsb hsb0 hpk2 hsb2 hst0 hsn hst
 refine x_pure 1 [(5, Vs x6.1)] _ _ _ (by kernel_rfl) ?_
 refine x_ek ?_
 refine c_sp ?_
 refine x_pure 1 [(20, Vs x6.1)] _ _ _ (by kernel_rfl) ?_
 obtain ⟨x8, hx, h⟩ := bind_some h
 have hcall := wagonnumber_Format_w x6.1 _ w7 hx
 refine x_call 19 #[] #[] [Vs x6.1] _ rfl rfl rfl rfl hcall ?_
 rintro v w9 ⟨rfl, he9⟩
 clear hcall hx
 refine inl1 ?_
 have hst := Stp.ext (ls := [[b0_3], M]) he9
 replace hs_p0 := hs_p0.step hst
 replace hf3_1 := he9.box hf3_1 nn
 replace hf3_2 := hf3_2.step hst
 replace hms := hms.ev he9
 replace hev := hev.ext he9
 refine x_pure 5 [(19, .tuple #[Vs x8.1, Vi x8.2]), (22, Vs x8.1), (23, Vi x8.2), (6, Vs x8.1), (7, Vi x8.2)] _ _ _ (by kernel_rfl) ?_
 refine x_ek ?_
 refine c_sp ?_
 refine x_pure 1 [(25, Vs x8.1)] _ _ _ (by kernel_rfl) ?_
 obtain ⟨x10, hx, h⟩ := bind_some h
 have hcall := wagonnumber_Parse_w x8.1 _ w9 hx
 refine x_call 20 #[] #[] [Vs x8.1] _ rfl rfl rfl rfl hcall ?_
 rintro v w11 ⟨rfl, he11⟩
 clear hcall hx
 refine inl1 ?_
 have hst := Stp.ext (ls := [[b0_3], M]) he11
 replace hs_p0 := hs_p0.step hst
 replace hf3_1 := he11.box hf3_1 nn
 replace hf3_2 := hf3_2.step hst
 replace hms := hms.ev he11
 replace hev := hev.ext he11
 refine x_pure 5 [(24, .tuple #[Vs x10.1, Vi x10.2]), (27, Vs x10.1), (28, Vi x10.2), (8, Vs x10.1), (9, Vi x10.2)] _ _ _ (by kernel_rfl) ?_
 refine x_ek ?_
 refine c_norm [(0, .slice a_p0 (p0).length c_p0), (1, Vs p1), (5, Vs x6.1), (6, Vs x8.1), (7, Vi x8.2), (8, Vs x10.1), (9, Vi x10.2)] ⟨rfl, rfl, rfl, rfl, rfl, rfl, rfl, trivial⟩ (fun J => ?_)
 refine c_seq ?_
 refine c_join (σ := Bool) (fun s => match s with | t44__s44_j13 => [(0, .slice a_p0 (p0).length c_p0), (1, Vs p1), (5, Vs x6.1), (6, Vs x8.1), (7, Vi x8.2), (8, Vs x10.1), (9, Vi x10.2), (44, .bool t44__s44_j13)]) (fun s w' => match s with | t44__s44_j13 => law02_WagonnumberText_J13 p0 p1 x6 x8 x10 t44__s44_j13 = some r ∧ Ev [] w w' ∧ MS w' [M] ∧ FR w.heap.size [] ∧ SlR (eInt .i64) w' (fl [M]) a_p0 c_p0 p0) ?_ ?_
 · refine c_plain ?_
   refine x_pure 3 [(29, Vi x8.2), (30, .bool (x8.2 != 0)), (31, .bool (x8.2 != 0))] _ _ _ (by kernel_rfl) ?_
   refine x_split 31 (x8.2 != 0) rfl (fun hb => ?_) (fun hb => ?_)
   · replace h := ite_t hb h
     refine x_pure 13 [(32, undef), (33, undef), (34, .bool true), (35, .bool true), (36, undef), (37, undef), (38, undef), (39, .bool true), (40, .bool true), (41, undef), (42, undef), (43, undef), (44, .bool true)] _ _ _ (by kernel_rfl) ?_
     refine x_end rfl ?_
     have hpk : MS w11 [M] := hms.pick [some 1] _ rfl
     have hsu : ∀ x ∈ fl [M], x ∈ fl [[b0_3], M] := pick_sub [some 1] _ rfl
     replace hs_p0 := hs_p0.sub hsu
     replace hms := hpk
     replace hfr : FR w.heap.size [] := hfr.pick [] _ rfl
     clear hpk hsu
     exact k_then ⟨true, ⟨rfl, rfl, rfl, rfl, rfl, rfl, rfl, rfl, trivial⟩, h, hev, hms, hfr, hs_p0⟩
   replace h := ite_f hb h
   refine x_pure 4 [(32, Vi x10.2), (33, .bool (x10.2 != 0)), (34, .bool (x10.2 != 0)), (35, .bool (x10.2 != 0))] _ _ _ (by kernel_rfl) ?_
   refine x_split 35 (x10.2 != 0) rfl (fun hb => ?_) (fun hb => ?_)
   · replace h := ite_t hb h
     refine x_pure 9 [(36, undef), (37, undef), (38, undef), (39, .bool true), (40, .bool true), (41, undef), (42, undef), (43, undef), (44, .bool true)] _ _ _ (by kernel_rfl) ?_
     refine x_end rfl ?_
     have hpk : MS w11 [M] := hms.pick [some 1] _ rfl
     have hsu : ∀ x ∈ fl [M], x ∈ fl [[b0_3], M] := pick_sub [some 1] _ rfl
     replace hs_p0 := hs_p0.sub hsu
     replace hms := hpk
     replace hfr : FR w.heap.size [] := hfr.pick [] _ rfl
     clear hpk hsu
     exact k_then ⟨true, ⟨rfl, rfl, rfl, rfl, rfl, rfl, rfl, rfl, trivial⟩, h, hev, hms, hfr, hs_p0⟩
   replace h := ite_f hb h
   refine x_pure 2 [(36, Vs x10.1), (37, Vs x6.1)] _ _ _ (by kernel_rfl) ?_
   refine x_binop (.bool (x10.1 != x6.1)) (Vs x10.1) (Vs x6.1) rfl rfl rfl rfl (bin_sne) ?_
   refine x_pure 2 [(39, .bool (x10.1 != x6.1)), (40, .bool (x10.1 != x6.1))] _ _ _ (by kernel_rfl) ?_
   refine x_split 40 (x10.1 != x6.1) rfl (fun hb => ?_) (fun hb => ?_)
   · replace h := ite_t hb h
     refine x_pure 4 [(41, undef), (42, undef), (43, undef), (44, .bool true)] _ _ _ (by kernel_rfl) ?_
     refine x_end rfl ?_
     have hpk : MS w11 [M] := hms.pick [some 1] _ rfl
     have hsu : ∀ x ∈ fl [M], x ∈ fl [[b0_3], M] := pick_sub [some 1] _ rfl
     replace hs_p0 := hs_p0.sub hsu
     replace hms := hpk
     replace hfr : FR w.heap.size [] := hfr.pick [] _ rfl
     clear hpk hsu
     exact k_then ⟨true, ⟨rfl, rfl, rfl, rfl, rfl, rfl, rfl, rfl, trivial⟩, h, hev, hms, hfr, hs_p0⟩
   replace h := ite_f hb h
   refine x_pure 1 [(41, Vs p1)] _ _ _ (by kernel_rfl) ?_
   refine x_len (vs := [Vs p1]) (Vi (p1.length : Int)) rfl rfl rfl (reads_slen tstr9 _) ?_
   refine x_pure 2 [(43, .bool (decide ((p1.length : Int) > 60))), (44, .bool (decide ((p1.length : Int) > 60)))] _ _ _ (by kernel_rfl) ?_
   refine x_end rfl ?_
   have hpk : MS w11 [M] := hms.pick [some 1] _ rfl
   have hsu : ∀ x ∈ fl [M], x ∈ fl [[b0_3], M] := pick_sub [some 1] _ rfl
   replace hs_p0 := hs_p0.sub hsu
   replace hms := hpk
   replace hfr : FR w.heap.size [] := hfr.pick [] _ rfl
   clear hpk hsu
   exact k_then ⟨decide ((p1.length : Int) > 60), ⟨rfl, rfl, rfl, rfl, rfl, rfl, rfl, rfl, trivial⟩, h, hev, hms, hfr, hs_p0⟩
 rintro t44__s44_j13 J wj13 ⟨h, hev, hms, hfr, hs_p0⟩
 refine c_cond t44__s44_j13 rfl (fun hb => ?_) (fun hb => ?_)
 · replace h := ite_t hb h
   refine c_sp ?_
   refine x_pure 3 [(45, Vi x8.2), (46, .bool (x8.2 == 0)), (47, .bool (x8.2 == 0))] _ _ _ (by kernel_rfl) ?_
   refine x_split 47 (x8.2 == 0) rfl (fun hb => ?_) (fun hb => ?_)
   · replace h := ite_t hb h
     refine x_pure 4 [(48, Vi x10.2), (49, .bool (x10.2 == 0)), (50, .bool (x10.2 == 0)), (51, .bool (x10.2 == 0))] _ _ _ (by kernel_rfl) ?_
     refine x_split 51 (x10.2 == 0) rfl (fun hb => ?_) (fun hb => ?_)
     · replace h := ite_t hb h
       refine x_pure 2 [(52, Vs x10.1), (53, Vs x6.1)] _ _ _ (by kernel_rfl) ?_
       refine x_binop (.bool (x10.1 == x6.1)) (Vs x10.1) (Vs x6.1) rfl rfl rfl rfl (bin_seq) ?_
       refine x_pure 2 [(55, .bool (x10.1 == x6.1)), (4, .bool (x10.1 == x6.1))] _ _ _ (by kernel_rfl) ?_
       refine x_ek ?_
       refine c_norm [(4, .bool (x10.1 == x6.1))] ⟨rfl, trivial⟩ (fun J => ?_)
       refine c_ret ?_
       refine k_then_ret ?_
       refine r_ret (r_vals [.bool (x10.1 == x6.1)] ⟨rfl, trivial⟩ ?_)
       have hx := some_inj h
       subst hx
       have hmr : MS wj13 [M] := hms.pick [some 0] _ rfl
       have hsu : ∀ x ∈ fl [M], x ∈ fl [M] := pick_sub [some 0] _ rfl
       exact ⟨rfl, hev⟩
     replace h := ite_f hb h
     refine x_pure 5 [(52, undef), (53, undef), (54, undef), (55, .bool false), (4, .bool false)] _ _ _ (by kernel_rfl) ?_
     refine x_ek ?_
     refine c_norm [(4, .bool false)] ⟨rfl, trivial⟩ (fun J => ?_)
     refine c_ret ?_
     refine k_then_ret ?_
     refine r_ret (r_vals [.bool false] ⟨rfl, trivial⟩ ?_)
     have hx := some_inj h
     subst hx
     have hmr : MS wj13 [M] := hms.pick [some 0] _ rfl
     have hsu : ∀ x ∈ fl [M], x ∈ fl [M] := pick_sub [some 0] _ rfl
     exact ⟨rfl, hev⟩
   replace h := ite_f hb h
   refine x_pure 9 [(48, undef), (49, undef), (50, .bool false), (51, .bool false), (52, undef), (53, undef), (54, undef), (55, .bool false), (4, .bool false)] _ _ _ (by kernel_rfl) ?_
   refine x_ek ?_
   refine c_norm [(4, .bool false)] ⟨rfl, trivial⟩ (fun J => ?_)
   refine c_ret ?_
   refine k_then_ret ?_
   refine r_ret (r_vals [.bool false] ⟨rfl, trivial⟩ ?_)
   have hx := some_inj h
   subst hx
   have hmr : MS wj13 [M] := hms.pick [some 0] _ rfl
   have hsu : ∀ x ∈ fl [M], x ∈ fl [M] := pick_sub [some 0] _ rfl
   exact ⟨rfl, hev⟩
 replace h := ite_f hb h
 refine c_skip ?_
 refine k_then ?_
 refine c_norm [(0, .slice a_p0 (p0).length c_p0), (1, Vs p1), (6, Vs x8.1)] ⟨rfl, rfl, rfl, trivial⟩ (fun J => ?_)
 refine c_seq ?_
 refine c_sp ?_
 refine x_pure 2 [(56, Vs p1), (57, .slice a_p0 (p0).length c_p0)] _ _ _ (by kernel_rfl) ?_
 obtain ⟨x14, hx, h⟩ := bind_some h
 have hpk : MS wj13 ([] ++ [M]) := hms.pick [some 0] _ rfl
 have hsb0 : ∀ x ∈ fl ([] ++ [M]), x ∈ fl [M] := pick_sub [some 0] _ rfl
 have hsb : ∀ x ∈ fl ([] ++ [(fl [M])]), x ∈ fl [M] := fun x hx => hsb0 x (fl_unfold x hx)
 have hcall := gen_New_w a_p0 c_p0 p0 _ wj13 (fl [M]) (MS.fold (P := []) hpk) (hs_p0.sub hsb) hx
 refine x_call 9 #[] #[] [.slice a_p0 (p0).length c_p0] _ rfl rfl rfl rfl hcall ?_
 rintro v w15 ⟨b0_15, a1_15, c1_15, rfl, he15, hmn15, hfn15, hf15_1, hf15_2⟩
 clear hcall hx
 refine inl1 ?_
 have hpk2 : MS wj13 ([] ++ [M]) := hms.pick [some 0] _ rfl
 have hsb2 : ∀ x ∈ fl ([] ++ [M]), x ∈ fl [M] := pick_sub [some 0] _ rfl
 have hst0 := Stp.call (LS := [M]) (res := [[b0_15]]) (par := []) (R := [M]) he15 (fun b hb => hsb2 b (fl_left' (P := []) b hb)) hfn15 (NP.init _ _) (fun x hx => hsb2 x (fl_right' (P := []) x hx))
 have hsn : ∀ x ∈ fl [[b0_15], M], x ∈ fl ([[b0_15]] ++ ([] ++ [M])) := pick_sub [some 0, some 1] _ rfl
 have hst := hst0.res hsn
 replace hs_p0 := hs_p0.step hst
 replace hms : MS w15 [[b0_15], M] := (MS.call (P := []) (R := [M]) (res := [[b0_15]]) (par := []) hpk2 he15 hmn15 hfn15 (NP.init _ _)).pick [some 0, some 1] _ rfl
 have hfr2 : FR w.heap.size [[b0_15]] := (FR.cons (fun b hb => Nat.le_trans hev.size (hfn15.at 0 rfl b hb)) (FR.nil _))
 replace hev := hev.ext he15
 replace hfr := hfr2
 clear hfr2
 have hsp : ∀ x ∈ fl [[b0_15], M], x ∈ fl ([[b0_15]] ++ ([] ++ [(fl [M])])) := fun x hx => fl_tot (res := [[b0_15]]) (par := []) (R := [M]) x (hsn x hx)
 replace hf15_2 := hf15_2.sub hsp
 clear hpk hsb hsb0 hpk2 hsb2 hst0 hsn hst
 refine x_pure 1 [(59, Vs x8.1)] _ _ _ (by kernel_rfl) ?_
 obtain ⟨x18, hx, h⟩ := bind_some h
 have hpk : MS w15 ([[b0_15]] ++ [M]) := hms.pick [some 0, some 1] _ rfl
 have hsb0 : ∀ x ∈ fl ([[b0_15]] ++ [M]), x ∈ fl [[b0_15], M] := pick_sub [some 0, some 1] _ rfl
 have hsb : ∀ x ∈ fl ([[b0_15]] ++ [(fl [M])]), x ∈ fl [[b0_15], M] := fun x hx => hsb0 x (fl_unfold x hx)
 have hcall := gen_Maker_Spoil_w b0_15 a1_15 c1_15 x14.1 x14.2 x8.1 _ w15 (fl [M]) (hpk.fold (P := [[b0_15]])) (hf15_2.sub hsb) hf15_1 hx
 refine x_call 18 #[] #[] [Vp b0_15 0, Vs x8.1] _ rfl rfl rfl rfl hcall ?_
 rintro v w19 ⟨rfl, he19, hp19_0⟩
 clear hcall hx
 refine inl1 ?_
 have hpk2 : MS w15 ([[b0_15]] ++ [M]) := hms.pick [some 0, some 1] _ rfl
 have hsb2 : ∀ x ∈ fl ([[b0_15]] ++ [M]), x ∈ fl [[b0_15], M] := pick_sub [some 0, some 1] _ rfl
 have hst0 := Stp.call (LS := [[b0_15], M]) (res := []) (par := [[b0_15]]) (R := [M]) he19 (fun b hb => hsb2 b (fl_left' (P := [[b0_15]]) b hb)) (FR.nil _) (NP.init _ _) (fun x hx => hsb2 x (fl_right' (P := [[b0_15]]) x hx))
 have hsn : ∀ x ∈ fl [[b0_15], M], x ∈ fl ([] ++ ([[b0_15]] ++ [M])) := pick_sub [some 0, some 1] _ rfl
 have hst := hst0.res hsn
 replace hs_p0 := hs_p0.step hst
 replace hf15_2 := hf15_2.step hst
 replace hms := hms.ev he19
 have hPf : ∀ b ∈ fl [[b0_15]], w.heap.size ≤ b := FR.mem (ls := [[b0_15]]) (hfr.pick [some 0] _ rfl)
 replace hev := hev.then he19 (fun b hb => .inr (hPf b hb))
 replace hf15_1 := hp19_0
 clear hpk hsb hsb0 hpk2 hsb2 hst0 hsn hst
 refine x_buildSlice (vs := [(0, Vs p1), (1, Vs x18.1)]) #[Vs p1, Vs x18.1] 9 rfl rfl rfl (by kernel_rfl) (fun b20 w20 hq20 hb20 he20 hz20 => ?_)
 refine inl1 ?_
 have hms0 := hms
 have hst := Stp.ext (ls := [[b0_15], M]) he20
 replace hs_p0 := hs_p0.step hst
 replace hf15_1 := he20.box hf15_1 nn
 replace hf15_2 := hf15_2.step hst
 replace hms := hms.ev he20
 replace hev := hev.ext he20
 have hs20 : SlR eStr w20 (fl [[b0_15], M]) (Ad b20 0) 2 ([p1, x18.1] : List (List UInt8)) := ro_of_box hms0 hq20 hb20 rfl rfl (cells_at (cs := [Vs p1, Vs x18.1]) (CellsOf.cons (c := [Vs p1]) rfl (CellsOf.cons (c := [Vs x18.1]) rfl CellsOf.nil)))
 clear hb20 hms0
 refine x_len (vs := [.slice (Ad b20 0) (([p1, x18.1] : List (List UInt8))).length 2]) (Vi ((([p1, x18.1] : List (List UInt8))).length : Int)) rfl rfl rfl (reads_len tsl29 _ _ _ _ _) ?_
 refine x_pure 1 [(63, Vi 0)] _ _ _ (by kernel_rfl) ?_
 refine x_ek ?_
 refine c_block ?_
 have hpk : MS w20 [M] := hms.pick [some 1] _ rfl
 have hsu : ∀ x ∈ fl [M], x ∈ fl [[b0_15], M] := pick_sub [some 1] _ rfl
 replace hs20 := hs20.sub hsu
 replace hms := hpk
 replace hfr : FR w.heap.size [] := hfr.pick [] _ rfl
 clear hpk hsu
 obtain ⟨d22, hd22, h22⟩ := bind_some h
 obtain ⟨m22, hd22⟩ := loop_some hd22
 refine c_loop (loop_rule hmx (σ := Nat × (List (List UInt8)) × Int × Int) (fun s => match s with | (_, d21_l22, t62__s62_l22, t63__s63_l22) => [(61, .slice (Ad b20 0) (d21_l22).length 2), (62, Vi t62__s62_l22), (63, Vi t63__s63_l22)]) (fun s w' => match s with | (m, d21_l22, t62__s62_l22, t63__s63_l22) => loopN law02_WagonnumberText_L22 m (d21_l22, t62__s62_l22, t63__s63_l22) = some d22 ∧ Ev [] w w' ∧ MS w' [M] ∧ FR w.heap.size [] ∧ SlR eStr w' (fl [M]) (Ad b20 0) 2 d21_l22) (fun s => s.1) (m22, ([p1, x18.1] : List (List UInt8)), ((([p1, x18.1] : List (List UInt8))).length : Int), 0) ⟨rfl, rfl, rfl, trivial⟩ ⟨hd22, hev, hms, hfr, hs20⟩ ?_)
 rintro ⟨m22, d21_l22, t62__s62_l22, t63__s63_l22⟩ J wl22 ⟨hn22, hev, hms, hfr, hs20⟩
 rcases m22 with _ | m22
 · exact (loopN_zero hn22).elim
 obtain ⟨t22, h, hn22⟩ := bind_some hn22
 refine c_sp ?_
 refine x_pure 1 [(64, .bool (decide (t63__s63_l22 < t62__s62_l22)))] _ _ _ (by kernel_rfl) ?_
 refine x_ek ?_
 refine c_norm [(61, .slice (Ad b20 0) (d21_l22).length 2), (62, Vi t62__s62_l22), (63, Vi t63__s63_l22), (64, .bool (decide (t63__s63_l22 < t62__s62_l22)))] ⟨rfl, rfl, rfl, rfl, trivial⟩ (fun J => ?_)
 refine c_seq ?_
 refine c_cond (decide (t63__s63_l22 < t62__s62_l22)) rfl (fun hb => ?_) (fun hb => ?_)
 · replace h := ite_t hb h
   refine c_skip ?_
   refine k_then ?_
   refine c_seq ?_
   refine c_block ?_
   refine c_sp ?_
   obtain ⟨x24, hx24, h⟩ := bind_some h
   obtain ⟨ad24, cs24, hr24, hc24, hR⟩ := reads_index (Mo := []) tsl29 hs20 hx24
   obtain rfl := hR
   refine x_indexAddr (xv := .slice (Ad b20 0) (d21_l22).length 2) (yv := Vi t63__s63_l22) (.pointer (some ad24)) rfl rfl rfl rfl hr24 ?_
   refine x_load (xv := .pointer (some ad24)) (Vs x24) rfl rfl rfl (reads_cell0 tcell9 hc24 (fun _ h => by cases h)) ?_
   refine x_pure 1 [(11, Vs x24)] _ _ _ (by kernel_rfl) ?_
   refine x_ek ?_
   refine c_sp ?_
   refine x_pure 1 [(68, Vs x24)] _ _ _ (by kernel_rfl) ?_
   obtain ⟨x26, hx, h⟩ := bind_some h
   have hcall := wagonnumber_Parse_w x24 _ wl22 hx
   refine x_call 20 #[] #[] [Vs x24] _ rfl rfl rfl rfl hcall ?_
   rintro v w27 ⟨rfl, he27⟩
   clear hcall hx
   refine inl1 ?_
   have hst := Stp.ext (ls := [M]) he27
   replace hs20 := hs20.step hst
   replace hms := hms.ev he27
   replace hev := hev.ext he27
   refine x_pure 5 [(67, .tuple #[Vs x26.1, Vi x26.2]), (70, Vs x26.1), (71, Vi x26.2), (12, Vs x26.1), (13, Vi x26.2)] _ _ _ (by kernel_rfl) ?_
   refine x_ek ?_
   refine c_seq ?_
   refine c_sp ?_
   refine x_pure 2 [(72, Vi x26.2), (73, .bool (x26.2 != 0))] _ _ _ (by kernel_rfl) ?_
   refine x_ek ?_
   refine c_cond (x26.2 != 0) rfl (fun hb => ?_) (fun hb => ?_)
   · replace h := ite_t hb h
     refine c_exit ?_
     refine k_then_exit ?_
     refine k_block_in ?_
     refine k_then ?_
     refine c_norm [(61, .slice (Ad b20 0) (d21_l22).length 2), (62, Vi t62__s62_l22), (63, Vi t63__s63_l22)] ⟨rfl, rfl, rfl, trivial⟩ (fun J => ?_)
     refine c_plain ?_
     refine x_pure 2 [(86, Vi (IntKind.i64.wrap (t63__s63_l22 + 1))), (63, Vi (IntKind.i64.wrap (t63__s63_l22 + 1)))] _ _ _ (by kernel_rfl) ?_
     refine x_end rfl ?_
     have hx := some_inj h
     subst hx
     exact k_then ⟨(m22, d21_l22, t62__s62_l22, IntKind.i64.wrap (t63__s63_l22 + 1)), ⟨rfl, rfl, rfl, trivial⟩, ⟨hn22, hev, hms, hfr, hs20⟩, Nat.lt_succ_self _⟩
   replace h := ite_f hb h
   refine c_skip ?_
   refine k_then ?_
   refine c_norm [(11, Vs x24), (12, Vs x26.1), (61, .slice (Ad b20 0) (d21_l22).length 2), (62, Vi t62__s62_l22), (63, Vi t63__s63_l22)] ⟨rfl, rfl, rfl, rfl, rfl, trivial⟩ (fun J => ?_)
   refine c_sp ?_
   refine x_pure 1 [(75, Vs x26.1)] _ _ _ (by kernel_rfl) ?_
   obtain ⟨x29, hx, h⟩ := bind_some h
   have hcall := wagonnumber_Format_w x26.1 _ w27 hx
   refine x_call 19 #[] #[] [Vs x26.1] _ rfl rfl rfl rfl hcall ?_
   rintro v w30 ⟨rfl, he30⟩
   clear hcall hx
   refine inl1 ?_
   have hst := Stp.ext (ls := [M]) he30
   replace hs20 := hs20.step hst
   replace hms := hms.ev he30
   replace hev := hev.ext he30
   refine x_pure 5 [(74, .tuple #[Vs x29.1, Vi x29.2]), (77, Vs x29.1), (78, Vi x29.2), (14, Vs x29.1), (15, Vi x29.2)] _ _ _ (by kernel_rfl) ?_
   refine x_ek ?_
   refine c_sp ?_
   refine x_pure 3 [(79, Vi x29.2), (80, .bool (x29.2 != 0)), (81, .bool (x29.2 != 0))] _ _ _ (by kernel_rfl) ?_
   refine x_split 81 (x29.2 != 0) rfl (fun hb => ?_) (fun hb => ?_)
   · replace h := ite_t hb h
     refine x_pure 4 [(82, undef), (83, undef), (84, undef), (85, .bool true)] _ _ _ (by kernel_rfl) ?_
     refine x_ek ?_
     refine c_norm [(61, .slice (Ad b20 0) (d21_l22).length 2), (62, Vi t62__s62_l22), (63, Vi t63__s63_l22), (85, .bool true)] ⟨rfl, rfl, rfl, rfl, trivial⟩ (fun J => ?_)
     refine c_true rfl ?_
     refine c_sp ?_
     refine x_pure 1 [(4, .bool false)] _ _ _ (by kernel_rfl) ?_
     refine x_ek ?_
     refine c_ret ?_
     refine k_block_ret ?_
     refine k_then_ret ?_
     have hx := some_inj h
     subst hx
     have hy := some_inj hn22
     subst hy
     replace h := h22
     refine k_then_ret ?_
     refine k_block_ret ?_
     refine k_then_ret ?_
     refine r_ret (r_vals [.bool false] ⟨rfl, trivial⟩ ?_)
     have hx := some_inj h
     subst hx
     have hmr : MS w30 [M] := hms.pick [some 0] _ rfl
     have hsu : ∀ x ∈ fl [M], x ∈ fl [M] := pick_sub [some 0] _ rfl
     exact ⟨rfl, hev⟩
   replace h := ite_f hb h
   refine x_pure 2 [(82, Vs x29.1), (83, Vs x24)] _ _ _ (by kernel_rfl) ?_
   refine x_binop (.bool (x29.1 != x24)) (Vs x29.1) (Vs x24) rfl rfl rfl rfl (bin_sne) ?_
   refine x_pure 1 [(85, .bool (x29.1 != x24))] _ _ _ (by kernel_rfl) ?_
   refine x_ek ?_
   refine c_norm [(61, .slice (Ad b20 0) (d21_l22).length 2), (62, Vi t62__s62_l22), (63, Vi t63__s63_l22), (85, .bool (x29.1 != x24))] ⟨rfl, rfl, rfl, rfl, trivial⟩ (fun J => ?_)
   refine c_cond (x29.1 != x24) rfl (fun hb => ?_) (fun hb => ?_)
   · replace h := ite_t hb h
     refine c_sp ?_
     refine x_pure 1 [(4, .bool false)] _ _ _ (by kernel_rfl) ?_
     refine x_ek ?_
     refine c_ret ?_
     refine k_block_ret ?_
     refine k_then_ret ?_
     have hx := some_inj h
     subst hx
     have hy := some_inj hn22
     subst hy
     replace h := h22
     refine k_then_ret ?_
     refine k_block_ret ?_
     refine k_then_ret ?_
     refine r_ret (r_vals [.bool false] ⟨rfl, trivial⟩ ?_)
     have hx := some_inj h
     subst hx
     have hmr : MS w30 [M] := hms.pick [some 0] _ rfl
     have hsu : ∀ x ∈ fl [M], x ∈ fl [M] := pick_sub [some 0] _ rfl
     exact ⟨rfl, hev⟩
   replace h := ite_f hb h
   refine c_skip ?_
   refine k_block ?_
   refine k_then ?_
   refine c_plain ?_
   refine x_pure 2 [(86, Vi (IntKind.i64.wrap (t63__s63_l22 + 1))), (63, Vi (IntKind.i64.wrap (t63__s63_l22 + 1)))] _ _ _ (by kernel_rfl) ?_
   refine x_end rfl ?_
   have hx := some_inj h
   subst hx
   exact k_then ⟨(m22, d21_l22, t62__s62_l22, IntKind.i64.wrap (t63__s63_l22 + 1)), ⟨rfl, rfl, rfl, trivial⟩, ⟨hn22, hev, hms, hfr, hs20⟩, Nat.lt_succ_self _⟩
 replace h := ite_f hb h
 refine c_exit ?_
 refine k_then_exit ?_
 have hx := some_inj h
 subst hx
 have hy := some_inj hn22
 subst hy
 replace h := h22
 refine k_then_exit ?_
 refine k_block_in ?_
 refine k_then ?_
 refine c_norm [] trivial (fun J => ?_)
 refine c_sp ?_
 obtain ⟨x31, hx, h⟩ := bind_some h
 have hcall := law02_sane_w _ wl22 hx
 refine x_call 13 #[] #[] [] _ rfl rfl rfl rfl hcall ?_
 rintro v w32 ⟨rfl, he32⟩
 clear hcall hx
 refine inl1 ?_
 replace hms := hms.ev he32
 replace hev := hev.ext he32
 refine x_pure 1 [(4, .bool x31)] _ _ _ (by kernel_rfl) ?_
 refine x_ek ?_
 refine c_ret ?_
 refine r_ret (r_vals [.bool x31] ⟨rfl, trivial⟩ ?_)
 have hx := some_inj h
 subst hx
 have hmr : MS w32 [M] := hms.pick [some 0] _ rfl
 have hsu : ∀ x ∈ fl [M], x ∈ fl [M] := pick_sub [some 0] _ rfl
 exact ⟨rfl, hev⟩
end Go.Proofs.Yteimkmjnjnaifaa
