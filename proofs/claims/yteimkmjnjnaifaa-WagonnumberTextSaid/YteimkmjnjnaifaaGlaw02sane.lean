/- Walks, printed by program: each function returns what the partial function of the same name returns. Conditions: those of each theorem. -/
import Derived.Test.YteimkmjnjnaifaaGT
import Derived.Test.YteimkmjnjnaifaaGwagonnumber
set_option linter.unusedVariables false
set_option linter.unusedSimpArgs false
set_option maxRecDepth 4000
namespace Go.Proofs.Yteimkmjnjnaifaa
open Go Go.V Go.Proofs
def law02_sane : Option Bool :=
((wagonnumber_Digit ([51, 49, 56, 48, 50, 55, 55, 51, 49, 50, 51] : List UInt8)).bind fun x1 =>
((wagonnumber_Format ([51, 49, 56, 48, 50, 55, 55, 51, 49, 50, 51, 55] : List UInt8)).bind fun x3 =>
((wagonnumber_Kind ([51, 49, 56, 48, 50, 55, 55, 51, 49, 50, 51, 55] : List UInt8)).bind fun x5 =>
((wagonnumber_Repairs ([51, 49, 56, 48, 50, 55, 55, 51, 49, 50, 51, 48] : List UInt8)).bind fun x7 =>
(if (x1.2 == 0) = true then
(if (x1.1 == 7) = true then
(if (x3.2 == 0) = true then
(if (x3.1 == ([51, 49, 32, 56, 48, 32, 50, 55, 55, 51, 32, 49, 50, 51, 45, 55] : List UInt8)) = true then
(if (x5.2 == 0) = true then
(if (x5.1 == 2) = true then
(if (x7.2 == 0) = true then
some (decide (((x7.1).length : Int) ≥ 12))
else
some false)
else
some false)
else
some false)
else
some false)
else
some false)
else
some false)
else
some false)))))

theorem law02_sane_w (r : Bool) (w : World) (h : law02_sane = some r) : CallVC Try.prog 13 [] w fun v w' => v = .bool r ∧ Ev [] w w' := by
 refine calls_vc hmx Try.func13 (by kernel_rfl) rfl (rs := [.tmp 0]) rfl (by kernel_rfl) (args := []) rfl ?_
 have hev : Ev [] w w := Ev.refl _ _
 have hms : MS w [[]] := ⟨List.pairwise_singleton _ _, fun l hl b hb => by simp only [List.mem_singleton] at hl; subst hl; cases hb⟩
 have hfr : FR w.heap.size [] := FR.nil _
 refine c_sp ?_
 refine x_pure 1 [(0, .bool false)] _ _ _ (by kernel_rfl) ?_
 refine x_ek ?_
 refine c_sp ?_
 obtain ⟨x1, hx, h⟩ := bind_some h
 have hcall := wagonnumber_Digit_w ([51, 49, 56, 48, 50, 55, 55, 51, 49, 50, 51] : List UInt8) _ w hx
 refine x_call 27 #[] #[] [Vs ([51, 49, 56, 48, 50, 55, 55, 51, 49, 50, 51] : List UInt8)] _ rfl rfl rfl rfl hcall ?_
 rintro v w2 ⟨rfl, he2⟩
 clear hcall hx
 refine inl1 ?_
 replace hms := hms.ev he2
 replace hev := hev.ext he2
 refine x_pure 5 [(9, .tuple #[Vi x1.1, Vi x1.2]), (11, Vi x1.1), (12, Vi x1.2), (1, Vi x1.1), (2, Vi x1.2)] _ _ _ (by kernel_rfl) ?_
 refine x_ek ?_
 refine c_sp ?_
 obtain ⟨x3, hx, h⟩ := bind_some h
 have hcall := wagonnumber_Format_w ([51, 49, 56, 48, 50, 55, 55, 51, 49, 50, 51, 55] : List UInt8) _ w2 hx
 refine x_call 19 #[] #[] [Vs ([51, 49, 56, 48, 50, 55, 55, 51, 49, 50, 51, 55] : List UInt8)] _ rfl rfl rfl rfl hcall ?_
 rintro v w4 ⟨rfl, he4⟩
 clear hcall hx
 refine inl1 ?_
 replace hms := hms.ev he4
 replace hev := hev.ext he4
 refine x_pure 5 [(13, .tuple #[Vs x3.1, Vi x3.2]), (15, Vs x3.1), (16, Vi x3.2), (3, Vs x3.1), (4, Vi x3.2)] _ _ _ (by kernel_rfl) ?_
 refine x_ek ?_
 refine c_sp ?_
 obtain ⟨x5, hx, h⟩ := bind_some h
 have hcall := wagonnumber_Kind_w ([51, 49, 56, 48, 50, 55, 55, 51, 49, 50, 51, 55] : List UInt8) _ w4 hx
 refine x_call 28 #[] #[] [Vs ([51, 49, 56, 48, 50, 55, 55, 51, 49, 50, 51, 55] : List UInt8)] _ rfl rfl rfl rfl hcall ?_
 rintro v w6 ⟨rfl, he6⟩
 clear hcall hx
 refine inl1 ?_
 replace hms := hms.ev he6
 replace hev := hev.ext he6
 refine x_pure 5 [(17, .tuple #[Vi x5.1, Vi x5.2]), (19, Vi x5.1), (20, Vi x5.2), (5, Vi x5.1), (6, Vi x5.2)] _ _ _ (by kernel_rfl) ?_
 refine x_ek ?_
 refine c_norm [(1, Vi x1.1), (2, Vi x1.2), (3, Vs x3.1), (4, Vi x3.2), (5, Vi x5.1), (6, Vi x5.2)] ⟨rfl, rfl, rfl, rfl, rfl, rfl, trivial⟩ (fun J => ?_)
 refine c_sp ?_
 obtain ⟨x7, hx, h⟩ := bind_some h
 have hpk : MS w6 ([] ++ [[]]) := hms.pick [some 0] _ rfl
 have hsb0 : ∀ x ∈ fl ([] ++ [[]]), x ∈ fl [[]] := pick_sub [some 0] _ rfl
 have hsb : ∀ x ∈ fl ([] ++ [(fl [[]])]), x ∈ fl [[]] := fun x hx => hsb0 x (fl_unfold x hx)
 have hcall := wagonnumber_Repairs_w ([51, 49, 56, 48, 50, 55, 55, 51, 49, 50, 51, 48] : List UInt8) _ w6 (fl [[]]) (MS.fold (P := []) hpk)  hx
 refine x_call 12 #[] #[] [Vs ([51, 49, 56, 48, 50, 55, 55, 51, 49, 50, 51, 48] : List UInt8)] _ rfl rfl rfl rfl hcall ?_
 rintro v w8 ⟨a0_8, c0_8, rfl, he8, hmn8, hfn8, hf8_1⟩
 clear hcall hx
 refine inl1 ?_
 have hpk2 : MS w6 ([] ++ [[]]) := hms.pick [some 0] _ rfl
 have hsb2 : ∀ x ∈ fl ([] ++ [[]]), x ∈ fl [[]] := pick_sub [some 0] _ rfl
 have hst0 := Stp.call (LS := [[]]) (res := [blk a0_8]) (par := []) (R := [[]]) he8 (fun b hb => hsb2 b (fl_left' (P := []) b hb)) hfn8 (NP.init _ _) (fun x hx => hsb2 x (fl_right' (P := []) x hx))
 have hsn : ∀ x ∈ fl [blk a0_8, []], x ∈ fl ([blk a0_8] ++ ([] ++ [[]])) := pick_sub [some 0, some 1] _ rfl
 have hst := hst0.res hsn
 replace hms : MS w8 [blk a0_8, []] := (MS.call (P := []) (R := [[]]) (res := [blk a0_8]) (par := []) hpk2 he8 hmn8 hfn8 (NP.init _ _)).pick [some 0, some 1] _ rfl
 have hfr2 : FR w.heap.size [blk a0_8] := (FR.cons (fun b hb => Nat.le_trans hev.size (hfn8.at 0 rfl b hb)) (FR.nil _))
 replace hev := hev.ext he8
 replace hfr := hfr2
 clear hfr2
 replace hf8_1 := OwnS.plain (M' := fl [blk a0_8, []]) plain_str hf8_1
 clear hpk hsb hsb0 hpk2 hsb2 hst0 hsn hst
 have hpk : MS w8 [[]] := hms.pick [some 1] _ rfl
 have hsu : ∀ x ∈ fl [[]], x ∈ fl [blk a0_8, []] := pick_sub [some 1] _ rfl
 replace hf8_1 := hf8_1.ro hsu (pick_out hms 0 rfl [some 1] [[]] rfl rfl)
 replace hms := hpk
 replace hfr : FR w.heap.size [] := hfr.pick [] _ rfl
 clear hpk hsu
 refine x_pure 5 [(21, .tuple #[.slice a0_8 (x7.1).length c0_8, Vi x7.2]), (23, .slice a0_8 (x7.1).length c0_8), (24, Vi x7.2), (7, .slice a0_8 (x7.1).length c0_8), (8, Vi x7.2)] _ _ _ (by kernel_rfl) ?_
 refine x_ek ?_
 refine c_sp ?_
 refine x_pure 3 [(25, Vi x1.2), (26, .bool (x1.2 == 0)), (27, .bool (x1.2 == 0))] _ _ _ (by kernel_rfl) ?_
 refine x_split 27 (x1.2 == 0) rfl (fun hb => ?_) (fun hb => ?_)
 · replace h := ite_t hb h
   refine x_pure 4 [(28, Vi x1.1), (29, .bool (x1.1 == 7)), (30, .bool (x1.1 == 7)), (31, .bool (x1.1 == 7))] _ _ _ (by kernel_rfl) ?_
   refine x_split 31 (x1.1 == 7) rfl (fun hb => ?_) (fun hb => ?_)
   · replace h := ite_t hb h
     refine x_pure 4 [(32, Vi x3.2), (33, .bool (x3.2 == 0)), (34, .bool (x3.2 == 0)), (35, .bool (x3.2 == 0))] _ _ _ (by kernel_rfl) ?_
     refine x_split 35 (x3.2 == 0) rfl (fun hb => ?_) (fun hb => ?_)
     · replace h := ite_t hb h
       refine x_pure 1 [(36, Vs x3.1)] _ _ _ (by kernel_rfl) ?_
       refine x_binop (.bool (x3.1 == ([51, 49, 32, 56, 48, 32, 50, 55, 55, 51, 32, 49, 50, 51, 45, 55] : List UInt8))) (Vs x3.1) (Vs ([51, 49, 32, 56, 48, 32, 50, 55, 55, 51, 32, 49, 50, 51, 45, 55] : List UInt8)) rfl rfl rfl rfl (bin_seq) ?_
       refine x_pure 2 [(38, .bool (x3.1 == ([51, 49, 32, 56, 48, 32, 50, 55, 55, 51, 32, 49, 50, 51, 45, 55] : List UInt8))), (39, .bool (x3.1 == ([51, 49, 32, 56, 48, 32, 50, 55, 55, 51, 32, 49, 50, 51, 45, 55] : List UInt8)))] _ _ _ (by kernel_rfl) ?_
       refine x_split 39 (x3.1 == ([51, 49, 32, 56, 48, 32, 50, 55, 55, 51, 32, 49, 50, 51, 45, 55] : List UInt8)) rfl (fun hb => ?_) (fun hb => ?_)
       · replace h := ite_t hb h
         refine x_pure 4 [(40, Vi x5.2), (41, .bool (x5.2 == 0)), (42, .bool (x5.2 == 0)), (43, .bool (x5.2 == 0))] _ _ _ (by kernel_rfl) ?_
         refine x_split 43 (x5.2 == 0) rfl (fun hb => ?_) (fun hb => ?_)
         · replace h := ite_t hb h
           refine x_pure 4 [(44, Vi x5.1), (45, .bool (x5.1 == 2)), (46, .bool (x5.1 == 2)), (47, .bool (x5.1 == 2))] _ _ _ (by kernel_rfl) ?_
           refine x_split 47 (x5.1 == 2) rfl (fun hb => ?_) (fun hb => ?_)
           · replace h := ite_t hb h
             refine x_pure 4 [(48, Vi x7.2), (49, .bool (x7.2 == 0)), (50, .bool (x7.2 == 0)), (51, .bool (x7.2 == 0))] _ _ _ (by kernel_rfl) ?_
             refine x_split 51 (x7.2 == 0) rfl (fun hb => ?_) (fun hb => ?_)
             · replace h := ite_t hb h
               refine x_pure 1 [(52, .slice a0_8 (x7.1).length c0_8)] _ _ _ (by kernel_rfl) ?_
               refine x_len (vs := [.slice a0_8 (x7.1).length c0_8]) (Vi ((x7.1).length : Int)) rfl rfl rfl (reads_len tsl29 _ _ _ _ _) ?_
               refine x_pure 3 [(54, .bool (decide (((x7.1).length : Int) ≥ 12))), (55, .bool (decide (((x7.1).length : Int) ≥ 12))), (0, .bool (decide (((x7.1).length : Int) ≥ 12)))] _ _ _ (by kernel_rfl) ?_
               refine x_ek ?_
               refine c_norm [(0, .bool (decide (((x7.1).length : Int) ≥ 12)))] ⟨rfl, trivial⟩ (fun J => ?_)
               refine c_ret ?_
               refine r_ret (r_vals [.bool (decide (((x7.1).length : Int) ≥ 12))] ⟨rfl, trivial⟩ ?_)
               have hx := some_inj h
               subst hx
               exact ⟨rfl, hev⟩
             replace h := ite_f hb h
             refine x_pure 5 [(52, undef), (53, undef), (54, undef), (55, .bool false), (0, .bool false)] _ _ _ (by kernel_rfl) ?_
             refine x_ek ?_
             refine c_norm [(0, .bool false)] ⟨rfl, trivial⟩ (fun J => ?_)
             refine c_ret ?_
             refine r_ret (r_vals [.bool false] ⟨rfl, trivial⟩ ?_)
             have hx := some_inj h
             subst hx
             exact ⟨rfl, hev⟩
           replace h := ite_f hb h
           refine x_pure 9 [(48, undef), (49, undef), (50, .bool false), (51, .bool false), (52, undef), (53, undef), (54, undef), (55, .bool false), (0, .bool false)] _ _ _ (by kernel_rfl) ?_
           refine x_ek ?_
           refine c_norm [(0, .bool false)] ⟨rfl, trivial⟩ (fun J => ?_)
           refine c_ret ?_
           refine r_ret (r_vals [.bool false] ⟨rfl, trivial⟩ ?_)
           have hx := some_inj h
           subst hx
           exact ⟨rfl, hev⟩
         replace h := ite_f hb h
         refine x_pure 13 [(44, undef), (45, undef), (46, .bool false), (47, .bool false), (48, undef), (49, undef), (50, .bool false), (51, .bool false), (52, undef), (53, undef), (54, undef), (55, .bool false), (0, .bool false)] _ _ _ (by kernel_rfl) ?_
         refine x_ek ?_
         refine c_norm [(0, .bool false)] ⟨rfl, trivial⟩ (fun J => ?_)
         refine c_ret ?_
         refine r_ret (r_vals [.bool false] ⟨rfl, trivial⟩ ?_)
         have hx := some_inj h
         subst hx
         exact ⟨rfl, hev⟩
       replace h := ite_f hb h
       refine x_pure 17 [(40, undef), (41, undef), (42, .bool false), (43, .bool false), (44, undef), (45, undef), (46, .bool false), (47, .bool false), (48, undef), (49, undef), (50, .bool false), (51, .bool false), (52, undef), (53, undef), (54, undef), (55, .bool false), (0, .bool false)] _ _ _ (by kernel_rfl) ?_
       refine x_ek ?_
       refine c_norm [(0, .bool false)] ⟨rfl, trivial⟩ (fun J => ?_)
       refine c_ret ?_
       refine r_ret (r_vals [.bool false] ⟨rfl, trivial⟩ ?_)
       have hx := some_inj h
       subst hx
       exact ⟨rfl, hev⟩
     replace h := ite_f hb h
     refine x_pure 21 [(36, undef), (37, undef), (38, .bool false), (39, .bool false), (40, undef), (41, undef), (42, .bool false), (43, .bool false), (44, undef), (45, undef), (46, .bool false), (47, .bool false), (48, undef), (49, undef), (50, .bool false), (51, .bool false), (52, undef), (53, undef), (54, undef), (55, .bool false), (0, .bool false)] _ _ _ (by kernel_rfl) ?_
     refine x_ek ?_
     refine c_norm [(0, .bool false)] ⟨rfl, trivial⟩ (fun J => ?_)
     refine c_ret ?_
     refine r_ret (r_vals [.bool false] ⟨rfl, trivial⟩ ?_)
     have hx := some_inj h
     subst hx
     exact ⟨rfl, hev⟩
   replace h := ite_f hb h
   refine x_pure 25 [(32, undef), (33, undef), (34, .bool false), (35, .bool false), (36, undef), (37, undef), (38, .bool false), (39, .bool false), (40, undef), (41, undef), (42, .bool false), (43, .bool false), (44, undef), (45, undef), (46, .bool false), (47, .bool false), (48, undef), (49, undef), (50, .bool false), (51, .bool false), (52, undef), (53, undef), (54, undef), (55, .bool false), (0, .bool false)] _ _ _ (by kernel_rfl) ?_
   refine x_ek ?_
   refine c_norm [(0, .bool false)] ⟨rfl, trivial⟩ (fun J => ?_)
   refine c_ret ?_
   refine r_ret (r_vals [.bool false] ⟨rfl, trivial⟩ ?_)
   have hx := some_inj h
   subst hx
   exact ⟨rfl, hev⟩
 replace h := ite_f hb h
 refine x_pure 29 [(28, undef), (29, undef), (30, .bool false), (31, .bool false), (32, undef), (33, undef), (34, .bool false), (35, .bool false), (36, undef), (37, undef), (38, .bool false), (39, .bool false), (40, undef), (41, undef), (42, .bool false), (43, .bool false), (44, undef), (45, undef), (46, .bool false), (47, .bool false), (48, undef), (49, undef), (50, .bool false), (51, .bool false), (52, undef), (53, undef), (54, undef), (55, .bool false), (0, .bool false)] _ _ _ (by kernel_rfl) ?_
 refine x_ek ?_
 refine c_norm [(0, .bool false)] ⟨rfl, trivial⟩ (fun J => ?_)
 refine c_ret ?_
 refine r_ret (r_vals [.bool false] ⟨rfl, trivial⟩ ?_)
 have hx := some_inj h
 subst hx
 exact ⟨rfl, hev⟩
end Go.Proofs.Yteimkmjnjnaifaa
