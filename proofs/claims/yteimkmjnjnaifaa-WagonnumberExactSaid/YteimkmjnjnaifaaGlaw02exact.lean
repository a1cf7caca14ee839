/- Walks, printed by program: each function returns what the partial function of the same name returns. Conditions: those of each theorem. -/
import Derived.Test.YteimkmjnjnaifaaGT
import Derived.Test.YteimkmjnjnaifaaGgen
import Derived.Test.YteimkmjnjnaifaaGr02
import Derived.Test.YteimkmjnjnaifaaGwagonnumber
set_option linter.unusedVariables false
set_option linter.unusedSimpArgs false
set_option maxRecDepth 4000
namespace Go.Proofs.Yteimkmjnjnaifaa
open Go Go.V Go.Proofs
def law02_exact (p0 : List UInt8) : Option Bool :=
((wagonnumber_Digit p0).bind fun x1 =>
((r02_Digit p0).bind fun x3 =>
(if (x1.1 != x3.1) = true then
some false
else
(if (x1.2 != x3.2) = true then
some false
else
((wagonnumber_Valid p0).bind fun x6 =>
((r02_Valid p0).bind fun x8 =>
(if (x6 != x8) = true then
some false
else
((wagonnumber_Kind p0).bind fun x10 =>
((r02_Kind p0).bind fun x12 =>
((wagonnumber_Format p0).bind fun x14 =>
((r02_Format p0).bind fun x16 =>
(if (x10.1 != x12.1) = true then
some false
else
(if (x10.2 != x12.2) = true then
some false
else
(if (x14.1 != x16.1) = true then
some false
else
(if (x14.2 != x16.2) = true then
some false
else
((wagonnumber_Parse p0).bind fun x19 =>
((r02_Parse p0).bind fun x21 =>
((wagonnumber_Repairs p0).bind fun x23 =>
((r02_Repairs p0).bind fun x26 =>
(if (x19.1 == x21.1) = true then
(if (x19.2 == x21.2) = true then
((gen_Strings x23.1 x26.1).bind fun x29 =>
(if x29 = true then
some (x23.2 == x26.2)
else
some false))
else
some false)
else
some false))))))))))))))))))))

theorem law02_exact_w (p0 : List UInt8) (r : Bool) (w : World) (h : law02_exact p0 = some r) : CallVC Try.prog 17 [Vs p0] w fun v w' => v = .bool r ∧ Ev [] w w' := by
 refine calls_vc hmx Try.func17 (by kernel_rfl) rfl (rs := [.tmp 2]) rfl (by kernel_rfl) (args := [Vs p0]) rfl ?_
 have hev : Ev [] w w := Ev.refl _ _
 have hms : MS w [[]] := ⟨List.pairwise_singleton _ _, fun l hl b hb => by simp only [List.mem_singleton] at hl; subst hl; cases hb⟩
 have hfr : FR w.heap.size [] := FR.nil _
 refine c_sp ?_
 refine x_pure 1 [(2, .bool false)] _ _ _ (by kernel_rfl) ?_
 refine x_ek ?_
 refine c_sp ?_
 refine x_pure 1 [(14, Vs p0)] _ _ _ (by kernel_rfl) ?_
 obtain ⟨x1, hx, h⟩ := bind_some h
 have hcall := wagonnumber_Digit_w p0 _ w hx
 refine x_call 27 #[] #[] [Vs p0] _ rfl rfl rfl rfl hcall ?_
 rintro v w2 ⟨rfl, he2⟩
 clear hcall hx
 refine inl1 ?_
 replace hms := hms.ev he2
 replace hev := hev.ext he2
 refine x_pure 5 [(13, .tuple #[Vi x1.1, Vi x1.2]), (16, Vi x1.1), (17, Vi x1.2), (3, Vi x1.1), (4, Vi x1.2)] _ _ _ (by kernel_rfl) ?_
 refine x_ek ?_
 refine c_sp ?_
 refine x_pure 1 [(19, Vs p0)] _ _ _ (by kernel_rfl) ?_
 obtain ⟨x3, hx, h⟩ := bind_some h
 have hcall := r02_Digit_w p0 _ w2 hx
 refine x_call 21 #[] #[] [Vs p0] _ rfl rfl rfl rfl hcall ?_
 rintro v w4 ⟨rfl, he4⟩
 clear hcall hx
 refine inl1 ?_
 replace hms := hms.ev he4
 replace hev := hev.ext he4
 refine x_pure 5 [(18, .tuple #[Vi x3.1, Vi x3.2]), (21, Vi x3.1), (22, Vi x3.2), (5, Vi x3.1), (6, Vi x3.2)] _ _ _ (by kernel_rfl) ?_
 refine x_ek ?_
 refine c_norm [(0, Vs p0), (3, Vi x1.1), (4, Vi x1.2), (5, Vi x3.1), (6, Vi x3.2)] ⟨rfl, rfl, rfl, rfl, rfl, trivial⟩ (fun J => ?_)
 refine c_seq ?_
 refine c_sp ?_
 refine x_pure 4 [(23, Vi x1.1), (24, Vi x3.1), (25, .bool (x1.1 != x3.1)), (26, .bool (x1.1 != x3.1))] _ _ _ (by kernel_rfl) ?_
 refine x_split 26 (x1.1 != x3.1) rfl (fun hb => ?_) (fun hb => ?_)
 · replace h := ite_t hb h
   refine x_pure 11 [(27, undef), (28, undef), (29, undef), (30, .bool true), (31, .bool true), (32, undef), (33, undef), (34, undef), (35, undef), (36, undef), (37, .bool true)] _ _ _ (by kernel_rfl) ?_
   refine x_ek ?_
   refine c_norm [(0, Vs p0), (37, .bool true)] ⟨rfl, rfl, trivial⟩ (fun J => ?_)
   refine c_true rfl ?_
   refine c_sp ?_
   refine x_pure 1 [(2, .bool false)] _ _ _ (by kernel_rfl) ?_
   refine x_ek ?_
   refine c_ret ?_
   refine k_then_ret ?_
   refine r_ret (r_vals [.bool false] ⟨rfl, trivial⟩ ?_)
   have hx := some_inj h
   subst hx
   exact ⟨rfl, hev⟩
 replace h := ite_f hb h
 refine x_pure 5 [(27, Vi x1.2), (28, Vi x3.2), (29, .bool (x1.2 != x3.2)), (30, .bool (x1.2 != x3.2)), (31, .bool (x1.2 != x3.2))] _ _ _ (by kernel_rfl) ?_
 refine x_split 31 (x1.2 != x3.2) rfl (fun hb => ?_) (fun hb => ?_)
 · replace h := ite_t hb h
   refine x_pure 6 [(32, undef), (33, undef), (34, undef), (35, undef), (36, undef), (37, .bool true)] _ _ _ (by kernel_rfl) ?_
   refine x_ek ?_
   refine c_norm [(0, Vs p0), (37, .bool true)] ⟨rfl, rfl, trivial⟩ (fun J => ?_)
   refine c_true rfl ?_
   refine c_sp ?_
   refine x_pure 1 [(2, .bool false)] _ _ _ (by kernel_rfl) ?_
   refine x_ek ?_
   refine c_ret ?_
   refine k_then_ret ?_
   refine r_ret (r_vals [.bool false] ⟨rfl, trivial⟩ ?_)
   have hx := some_inj h
   subst hx
   exact ⟨rfl, hev⟩
 replace h := ite_f hb h
 refine x_pure 1 [(32, Vs p0)] _ _ _ (by kernel_rfl) ?_
 obtain ⟨x6, hx, h⟩ := bind_some h
 have hcall := wagonnumber_Valid_w p0 _ w4 hx
 refine x_call 11 #[] #[] [Vs p0] _ rfl rfl rfl rfl hcall ?_
 rintro v w7 ⟨rfl, he7⟩
 clear hcall hx
 refine inl1 ?_
 replace hms := hms.ev he7
 replace hev := hev.ext he7
 refine x_pure 1 [(34, Vs p0)] _ _ _ (by kernel_rfl) ?_
 obtain ⟨x8, hx, h⟩ := bind_some h
 have hcall := r02_Valid_w p0 _ w7 hx
 refine x_call 29 #[] #[] [Vs p0] _ rfl rfl rfl rfl hcall ?_
 rintro v w9 ⟨rfl, he9⟩
 clear hcall hx
 refine inl1 ?_
 replace hms := hms.ev he9
 replace hev := hev.ext he9
 refine x_pure 2 [(36, .bool (x6 != x8)), (37, .bool (x6 != x8))] _ _ _ (by kernel_rfl) ?_
 refine x_ek ?_
 refine c_norm [(0, Vs p0), (37, .bool (x6 != x8))] ⟨rfl, rfl, trivial⟩ (fun J => ?_)
 refine c_cond (x6 != x8) rfl (fun hb => ?_) (fun hb => ?_)
 · replace h := ite_t hb h
   refine c_sp ?_
   refine x_pure 1 [(2, .bool false)] _ _ _ (by kernel_rfl) ?_
   refine x_ek ?_
   refine c_ret ?_
   refine k_then_ret ?_
   refine r_ret (r_vals [.bool false] ⟨rfl, trivial⟩ ?_)
   have hx := some_inj h
   subst hx
   exact ⟨rfl, hev⟩
 replace h := ite_f hb h
 refine c_skip ?_
 refine k_then ?_
 refine c_sp ?_
 refine x_pure 1 [(39, Vs p0)] _ _ _ (by kernel_rfl) ?_
 obtain ⟨x10, hx, h⟩ := bind_some h
 have hcall := wagonnumber_Kind_w p0 _ w9 hx
 refine x_call 28 #[] #[] [Vs p0] _ rfl rfl rfl rfl hcall ?_
 rintro v w11 ⟨rfl, he11⟩
 clear hcall hx
 refine inl1 ?_
 replace hms := hms.ev he11
 replace hev := hev.ext he11
 refine x_pure 5 [(38, .tuple #[Vi x10.1, Vi x10.2]), (41, Vi x10.1), (42, Vi x10.2), (3, Vi x10.1), (4, Vi x10.2)] _ _ _ (by kernel_rfl) ?_
 refine x_ek ?_
 refine c_sp ?_
 refine x_pure 1 [(44, Vs p0)] _ _ _ (by kernel_rfl) ?_
 obtain ⟨x12, hx, h⟩ := bind_some h
 have hcall := r02_Kind_w p0 _ w11 hx
 refine x_call 30 #[] #[] [Vs p0] _ rfl rfl rfl rfl hcall ?_
 rintro v w13 ⟨rfl, he13⟩
 clear hcall hx
 refine inl1 ?_
 replace hms := hms.ev he13
 replace hev := hev.ext he13
 refine x_pure 5 [(43, .tuple #[Vi x12.1, Vi x12.2]), (46, Vi x12.1), (47, Vi x12.2), (5, Vi x12.1), (6, Vi x12.2)] _ _ _ (by kernel_rfl) ?_
 refine x_ek ?_
 refine c_norm [(0, Vs p0), (3, Vi x10.1), (4, Vi x10.2), (5, Vi x12.1), (6, Vi x12.2)] ⟨rfl, rfl, rfl, rfl, rfl, trivial⟩ (fun J => ?_)
 refine c_sp ?_
 refine x_pure 1 [(49, Vs p0)] _ _ _ (by kernel_rfl) ?_
 obtain ⟨x14, hx, h⟩ := bind_some h
 have hcall := wagonnumber_Format_w p0 _ w13 hx
 refine x_call 19 #[] #[] [Vs p0] _ rfl rfl rfl rfl hcall ?_
 rintro v w15 ⟨rfl, he15⟩
 clear hcall hx
 refine inl1 ?_
 replace hms := hms.ev he15
 replace hev := hev.ext he15
 refine x_pure 5 [(48, .tuple #[Vs x14.1, Vi x14.2]), (51, Vs x14.1), (52, Vi x14.2), (7, Vs x14.1), (8, Vi x14.2)] _ _ _ (by kernel_rfl) ?_
 refine x_ek ?_
 refine c_sp ?_
 refine x_pure 1 [(54, Vs p0)] _ _ _ (by kernel_rfl) ?_
 obtain ⟨x16, hx, h⟩ := bind_some h
 have hcall := r02_Format_w p0 _ w15 hx
 refine x_call 16 #[] #[] [Vs p0] _ rfl rfl rfl rfl hcall ?_
 rintro v w17 ⟨rfl, he17⟩
 clear hcall hx
 refine inl1 ?_
 replace hms := hms.ev he17
 replace hev := hev.ext he17
 refine x_pure 5 [(53, .tuple #[Vs x16.1, Vi x16.2]), (56, Vs x16.1), (57, Vi x16.2), (9, Vs x16.1), (10, Vi x16.2)] _ _ _ (by kernel_rfl) ?_
 refine x_ek ?_
 refine c_norm [(0, Vs p0), (3, Vi x10.1), (4, Vi x10.2), (5, Vi x12.1), (6, Vi x12.2), (7, Vs x14.1), (8, Vi x14.2), (9, Vs x16.1), (10, Vi x16.2)] ⟨rfl, rfl, rfl, rfl, rfl, rfl, rfl, rfl, rfl, trivial⟩ (fun J => ?_)
 refine c_seq ?_
 refine c_sp ?_
 refine x_pure 4 [(58, Vi x10.1), (59, Vi x12.1), (60, .bool (x10.1 != x12.1)), (61, .bool (x10.1 != x12.1))] _ _ _ (by kernel_rfl) ?_
 refine x_split 61 (x10.1 != x12.1) rfl (fun hb => ?_) (fun hb => ?_)
 · replace h := ite_t hb h
   refine x_pure 14 [(62, undef), (63, undef), (64, undef), (65, .bool true), (66, .bool true), (67, undef), (68, undef), (69, undef), (70, .bool true), (71, .bool true), (72, undef), (73, undef), (74, undef), (75, .bool true)] _ _ _ (by kernel_rfl) ?_
   refine x_ek ?_
   refine c_norm [(0, Vs p0), (75, .bool true)] ⟨rfl, rfl, trivial⟩ (fun J => ?_)
   refine c_true rfl ?_
   refine c_sp ?_
   refine x_pure 1 [(2, .bool false)] _ _ _ (by kernel_rfl) ?_
   refine x_ek ?_
   refine c_ret ?_
   refine k_then_ret ?_
   refine r_ret (r_vals [.bool false] ⟨rfl, trivial⟩ ?_)
   have hx := some_inj h
   subst hx
   exact ⟨rfl, hev⟩
 replace h := ite_f hb h
 refine x_pure 5 [(62, Vi x10.2), (63, Vi x12.2), (64, .bool (x10.2 != x12.2)), (65, .bool (x10.2 != x12.2)), (66, .bool (x10.2 != x12.2))] _ _ _ (by kernel_rfl) ?_
 refine x_split 66 (x10.2 != x12.2) rfl (fun hb => ?_) (fun hb => ?_)
 · replace h := ite_t hb h
   refine x_pure 9 [(67, undef), (68, undef), (69, undef), (70, .bool true), (71, .bool true), (72, undef), (73, undef), (74, undef), (75, .bool true)] _ _ _ (by kernel_rfl) ?_
   refine x_ek ?_
   refine c_norm [(0, Vs p0), (75, .bool true)] ⟨rfl, rfl, trivial⟩ (fun J => ?_)
   refine c_true rfl ?_
   refine c_sp ?_
   refine x_pure 1 [(2, .bool false)] _ _ _ (by kernel_rfl) ?_
   refine x_ek ?_
   refine c_ret ?_
   refine k_then_ret ?_
   refine r_ret (r_vals [.bool false] ⟨rfl, trivial⟩ ?_)
   have hx := some_inj h
   subst hx
   exact ⟨rfl, hev⟩
 replace h := ite_f hb h
 refine x_pure 2 [(67, Vs x14.1), (68, Vs x16.1)] _ _ _ (by kernel_rfl) ?_
 refine x_binop (.bool (x14.1 != x16.1)) (Vs x14.1) (Vs x16.1) rfl rfl rfl rfl (bin_sne) ?_
 refine x_pure 2 [(70, .bool (x14.1 != x16.1)), (71, .bool (x14.1 != x16.1))] _ _ _ (by kernel_rfl) ?_
 refine x_split 71 (x14.1 != x16.1) rfl (fun hb => ?_) (fun hb => ?_)
 · replace h := ite_t hb h
   refine x_pure 4 [(72, undef), (73, undef), (74, undef), (75, .bool true)] _ _ _ (by kernel_rfl) ?_
   refine x_ek ?_
   refine c_norm [(0, Vs p0), (75, .bool true)] ⟨rfl, rfl, trivial⟩ (fun J => ?_)
   refine c_true rfl ?_
   refine c_sp ?_
   refine x_pure 1 [(2, .bool false)] _ _ _ (by kernel_rfl) ?_
   refine x_ek ?_
   refine c_ret ?_
   refine k_then_ret ?_
   refine r_ret (r_vals [.bool false] ⟨rfl, trivial⟩ ?_)
   have hx := some_inj h
   subst hx
   exact ⟨rfl, hev⟩
 replace h := ite_f hb h
 refine x_pure 4 [(72, Vi x14.2), (73, Vi x16.2), (74, .bool (x14.2 != x16.2)), (75, .bool (x14.2 != x16.2))] _ _ _ (by kernel_rfl) ?_
 refine x_ek ?_
 refine c_norm [(0, Vs p0), (75, .bool (x14.2 != x16.2))] ⟨rfl, rfl, trivial⟩ (fun J => ?_)
 refine c_cond (x14.2 != x16.2) rfl (fun hb => ?_) (fun hb => ?_)
 · replace h := ite_t hb h
   refine c_sp ?_
   refine x_pure 1 [(2, .bool false)] _ _ _ (by kernel_rfl) ?_
   refine x_ek ?_
   refine c_ret ?_
   refine k_then_ret ?_
   refine r_ret (r_vals [.bool false] ⟨rfl, trivial⟩ ?_)
   have hx := some_inj h
   subst hx
   exact ⟨rfl, hev⟩
 replace h := ite_f hb h
 refine c_skip ?_
 refine k_then ?_
 refine c_sp ?_
 refine x_pure 1 [(77, Vs p0)] _ _ _ (by kernel_rfl) ?_
 obtain ⟨x19, hx, h⟩ := bind_some h
 have hcall := wagonnumber_Parse_w p0 _ w17 hx
 refine x_call 20 #[] #[] [Vs p0] _ rfl rfl rfl rfl hcall ?_
 rintro v w20 ⟨rfl, he20⟩
 clear hcall hx
 refine inl1 ?_
 replace hms := hms.ev he20
 replace hev := hev.ext he20
 refine x_pure 5 [(76, .tuple #[Vs x19.1, Vi x19.2]), (79, Vs x19.1), (80, Vi x19.2), (7, Vs x19.1), (8, Vi x19.2)] _ _ _ (by kernel_rfl) ?_
 refine x_ek ?_
 refine c_sp ?_
 refine x_pure 1 [(82, Vs p0)] _ _ _ (by kernel_rfl) ?_
 obtain ⟨x21, hx, h⟩ := bind_some h
 have hcall := r02_Parse_w p0 _ w20 hx
 refine x_call 31 #[] #[] [Vs p0] _ rfl rfl rfl rfl hcall ?_
 rintro v w22 ⟨rfl, he22⟩
 clear hcall hx
 refine inl1 ?_
 replace hms := hms.ev he22
 replace hev := hev.ext he22
 refine x_pure 5 [(81, .tuple #[Vs x21.1, Vi x21.2]), (84, Vs x21.1), (85, Vi x21.2), (9, Vs x21.1), (10, Vi x21.2)] _ _ _ (by kernel_rfl) ?_
 refine x_ek ?_
 refine c_norm [(0, Vs p0), (7, Vs x19.1), (8, Vi x19.2), (9, Vs x21.1), (10, Vi x21.2)] ⟨rfl, rfl, rfl, rfl, rfl, trivial⟩ (fun J => ?_)
 refine c_sp ?_
 refine x_pure 1 [(87, Vs p0)] _ _ _ (by kernel_rfl) ?_
 obtain ⟨x23, hx, h⟩ := bind_some h
 have hpk : MS w22 ([] ++ [[]]) := hms.pick [some 0] _ rfl
 have hsb0 : ∀ x ∈ fl ([] ++ [[]]), x ∈ fl [[]] := pick_sub [some 0] _ rfl
 have hsb : ∀ x ∈ fl ([] ++ [(fl [[]])]), x ∈ fl [[]] := fun x hx => hsb0 x (fl_unfold x hx)
 have hcall := wagonnumber_Repairs_w p0 _ w22 (fl [[]]) (MS.fold (P := []) hpk)  hx
 refine x_call 12 #[] #[] [Vs p0] _ rfl rfl rfl rfl hcall ?_
 rintro v w24 ⟨a0_24, c0_24, rfl, he24, hmn24, hfn24, hf24_1⟩
 clear hcall hx
 refine inl1 ?_
 have hpk2 : MS w22 ([] ++ [[]]) := hms.pick [some 0] _ rfl
 have hsb2 : ∀ x ∈ fl ([] ++ [[]]), x ∈ fl [[]] := pick_sub [some 0] _ rfl
 have hst0 := Stp.call (LS := [[]]) (res := [blk a0_24]) (par := []) (R := [[]]) he24 (fun b hb => hsb2 b (fl_left' (P := []) b hb)) hfn24 (NP.init _ _) (fun x hx => hsb2 x (fl_right' (P := []) x hx))
 have hsn : ∀ x ∈ fl [blk a0_24, []], x ∈ fl ([blk a0_24] ++ ([] ++ [[]])) := pick_sub [some 0, some 1] _ rfl
 have hst := hst0.res hsn
 replace hms : MS w24 [blk a0_24, []] := (MS.call (P := []) (R := [[]]) (res := [blk a0_24]) (par := []) hpk2 he24 hmn24 hfn24 (NP.init _ _)).pick [some 0, some 1] _ rfl
 have hfr2 : FR w.heap.size [blk a0_24] := (FR.cons (fun b hb => Nat.le_trans hev.size (hfn24.at 0 rfl b hb)) (FR.nil _))
 replace hev := hev.ext he24
 replace hfr := hfr2
 clear hfr2
 replace hf24_1 := OwnS.plain (M' := fl [blk a0_24, []]) plain_str hf24_1
 clear hpk hsb hsb0 hpk2 hsb2 hst0 hsn hst
 have hpk : MS w24 [[]] := hms.pick [some 1] _ rfl
 have hsu : ∀ x ∈ fl [[]], x ∈ fl [blk a0_24, []] := pick_sub [some 1] _ rfl
 replace hf24_1 := hf24_1.ro hsu (pick_out hms 0 rfl [some 1] [[]] rfl rfl)
 replace hms := hpk
 replace hfr : FR w.heap.size [] := hfr.pick [] _ rfl
 clear hpk hsu
 refine x_pure 5 [(86, .tuple #[.slice a0_24 (x23.1).length c0_24, Vi x23.2]), (89, .slice a0_24 (x23.1).length c0_24), (90, Vi x23.2), (11, .slice a0_24 (x23.1).length c0_24), (4, Vi x23.2)] _ _ _ (by kernel_rfl) ?_
 refine x_ek ?_
 refine c_sp ?_
 refine x_pure 1 [(92, Vs p0)] _ _ _ (by kernel_rfl) ?_
 obtain ⟨x26, hx, h⟩ := bind_some h
 have hpk : MS w24 ([] ++ [[]]) := hms.pick [some 0] _ rfl
 have hsb0 : ∀ x ∈ fl ([] ++ [[]]), x ∈ fl [[]] := pick_sub [some 0] _ rfl
 have hsb : ∀ x ∈ fl ([] ++ [(fl [[]])]), x ∈ fl [[]] := fun x hx => hsb0 x (fl_unfold x hx)
 have hcall := r02_Repairs_w p0 _ w24 (fl [[]]) (MS.fold (P := []) hpk)  hx
 refine x_call 32 #[] #[] [Vs p0] _ rfl rfl rfl rfl hcall ?_
 rintro v w27 ⟨a0_27, c0_27, rfl, he27, hf27_1⟩
 clear hcall hx
 refine inl1 ?_
 have hst := Stp.ext (ls := [[]]) he27
 replace hf24_1 := hf24_1.step hst
 replace hms := hms.ev he27
 replace hev := hev.ext he27
 have hsp : ∀ x ∈ fl [[]], x ∈ fl ([] ++ [(fl [[]])]) := fun x hx => fl_fold (P := []) x (pick_sup [some 0] [[]] rfl rfl x hx)
 replace hf27_1 := hf27_1.sub hsp
 clear hpk hsb hsb0
 refine x_pure 5 [(91, .tuple #[.slice a0_27 (x26.1).length c0_27, Vi x26.2]), (94, .slice a0_27 (x26.1).length c0_27), (95, Vi x26.2), (12, .slice a0_27 (x26.1).length c0_27), (6, Vi x26.2)] _ _ _ (by kernel_rfl) ?_
 refine x_ek ?_
 refine c_norm [(4, Vi x23.2), (6, Vi x26.2), (7, Vs x19.1), (8, Vi x19.2), (9, Vs x21.1), (10, Vi x21.2), (11, .slice a0_24 (x23.1).length c0_24), (12, .slice a0_27 (x26.1).length c0_27)] ⟨rfl, rfl, rfl, rfl, rfl, rfl, rfl, rfl, trivial⟩ (fun J => ?_)
 refine c_sp ?_
 refine x_pure 2 [(96, Vs x19.1), (97, Vs x21.1)] _ _ _ (by kernel_rfl) ?_
 refine x_binop (.bool (x19.1 == x21.1)) (Vs x19.1) (Vs x21.1) rfl rfl rfl rfl (bin_seq) ?_
 refine x_pure 1 [(99, .bool (x19.1 == x21.1))] _ _ _ (by kernel_rfl) ?_
 refine x_split 99 (x19.1 == x21.1) rfl (fun hb => ?_) (fun hb => ?_)
 · replace h := ite_t hb h
   refine x_pure 5 [(100, Vi x19.2), (101, Vi x21.2), (102, .bool (x19.2 == x21.2)), (103, .bool (x19.2 == x21.2)), (104, .bool (x19.2 == x21.2))] _ _ _ (by kernel_rfl) ?_
   refine x_split 104 (x19.2 == x21.2) rfl (fun hb => ?_) (fun hb => ?_)
   · replace h := ite_t hb h
     refine x_pure 2 [(105, .slice a0_24 (x23.1).length c0_24), (106, .slice a0_27 (x26.1).length c0_27)] _ _ _ (by kernel_rfl) ?_
     obtain ⟨x29, hx, h⟩ := bind_some h
     have hpk : MS w27 ([] ++ [[]]) := hms.pick [some 0] _ rfl
     have hsb0 : ∀ x ∈ fl ([] ++ [[]]), x ∈ fl [[]] := pick_sub [some 0] _ rfl
     have hsb : ∀ x ∈ fl ([] ++ [(fl [[]])]), x ∈ fl [[]] := fun x hx => hsb0 x (fl_unfold x hx)
     have hcall := gen_Strings_w a0_24 c0_24 x23.1 a0_27 c0_27 x26.1 _ w27 (fl [[]]) (MS.fold (P := []) hpk) (hf24_1.sub hsb) (hf27_1.sub hsb) hx
     refine x_call 33 #[] #[] [.slice a0_24 (x23.1).length c0_24, .slice a0_27 (x26.1).length c0_27] _ rfl rfl rfl rfl hcall ?_
     rintro v w30 ⟨rfl, he30⟩
     clear hcall hx
     refine inl1 ?_
     have hst := Stp.ext (ls := [[]]) he30
     replace hf24_1 := hf24_1.step hst
     replace hf27_1 := hf27_1.step hst
     replace hms := hms.ev he30
     replace hev := hev.ext he30
     clear hpk hsb hsb0
     refine x_pure 2 [(108, .bool x29), (109, .bool x29)] _ _ _ (by kernel_rfl) ?_
     refine x_split 109 x29 rfl (fun hb => ?_) (fun hb => ?_)
     · replace h := ite_t hb h
       refine x_pure 5 [(110, Vi x23.2), (111, Vi x26.2), (112, .bool (x23.2 == x26.2)), (113, .bool (x23.2 == x26.2)), (2, .bool (x23.2 == x26.2))] _ _ _ (by kernel_rfl) ?_
       refine x_ek ?_
       refine c_norm [(2, .bool (x23.2 == x26.2))] ⟨rfl, trivial⟩ (fun J => ?_)
       refine c_ret ?_
       refine r_ret (r_vals [.bool (x23.2 == x26.2)] ⟨rfl, trivial⟩ ?_)
       have hx := some_inj h
       subst hx
       exact ⟨rfl, hev⟩
     replace h := ite_f hb h
     refine x_pure 5 [(110, undef), (111, undef), (112, undef), (113, .bool false), (2, .bool false)] _ _ _ (by kernel_rfl) ?_
     refine x_ek ?_
     refine c_norm [(2, .bool false)] ⟨rfl, trivial⟩ (fun J => ?_)
     refine c_ret ?_
     refine r_ret (r_vals [.bool false] ⟨rfl, trivial⟩ ?_)
     have hx := some_inj h
     subst hx
     exact ⟨rfl, hev⟩
   replace h := ite_f hb h
   refine x_pure 10 [(105, undef), (106, undef), (107, undef), (108, .bool false), (109, .bool false), (110, undef), (111, undef), (112, undef), (113, .bool false), (2, .bool false)] _ _ _ (by kernel_rfl) ?_
   refine x_ek ?_
   refine c_norm [(2, .bool false)] ⟨rfl, trivial⟩ (fun J => ?_)
   refine c_ret ?_
   refine r_ret (r_vals [.bool false] ⟨rfl, trivial⟩ ?_)
   have hx := some_inj h
   subst hx
   exact ⟨rfl, hev⟩
 replace h := ite_f hb h
 refine x_pure 15 [(100, undef), (101, undef), (102, undef), (103, .bool false), (104, .bool false), (105, undef), (106, undef), (107, undef), (108, .bool false), (109, .bool false), (110, undef), (111, undef), (112, undef), (113, .bool false), (2, .bool false)] _ _ _ (by kernel_rfl) ?_
 refine x_ek ?_
 refine c_norm [(2, .bool false)] ⟨rfl, trivial⟩ (fun J => ?_)
 refine c_ret ?_
 refine r_ret (r_vals [.bool false] ⟨rfl, trivial⟩ ?_)
 have hx := some_inj h
 subst hx
 exact ⟨rfl, hev⟩
end Go.Proofs.Yteimkmjnjnaifaa
