/- Walks, printed by program: each function returns what the partial function of the same name returns. Conditions: those of each theorem. -/
import Derived.Test.YtdbomhhcebmkpaaGT
import Derived.Test.YtdbomhhcebmkpaaGassign
import Derived.Test.YtdbomhhcebmkpaaGgen
set_option linter.unusedVariables false
set_option linter.unusedSimpArgs false
set_option maxRecDepth 4000
namespace Go.Proofs.Ytdbomhhcebmkpaa
open Go Go.V Go.Proofs
def law16_sane : Option Bool :=
((assign_Match ([5, 9, 0]) ([10, 6, 9])).bind fun x5 =>
((assign_Match ([7, 8]) ([9, 6])).bind fun x13 =>
(if (x5.2.2 == 0) = true then
((gen_Ints x5.1 ([1, 2, (-1)])).bind fun x19 =>
(if x19 = true then
(if (x13.2.2 == 14) = true then
((gen_Ints x13.2.1 ([0, 1])).bind fun x23 =>
(if x23 = true then
((assign_Refuses ([7, 8]) ([9, 6]) ([0, 1])).bind fun x31 =>
(if x31 = true then
((assign_Fits ([5, 9, 0]) ([10, 6, 9]) ([0, 2, (-1)])).bind fun x39 =>
some x39)
else
some false))
else
some false))
else
some false)
else
some false))
else
some false)))

theorem law16_sane_w (r : Bool) (w : World) (h : law16_sane = some r) : CallVC Try.prog 9 [] w fun v w' => v = .bool r ∧ Ev [] w w' := by
 refine calls_vc hmx Try.func9 (by kernel_rfl) rfl (rs := [.tmp 0]) rfl (by kernel_rfl) (args := []) rfl ?_
 have hev : Ev [] w w := Ev.refl _ _
 have hms : MS w [[]] := ⟨List.pairwise_singleton _ _, fun l hl b hb => by simp only [List.mem_singleton] at hl; subst hl; cases hb⟩
 have hfr : FR w.heap.size [] := FR.nil _
 refine c_sp ?_
 refine x_pure 1 [(0, .bool false)] _ _ _ (by kernel_rfl) ?_
 refine x_ek ?_
 refine c_sp ?_
 refine x_buildSlice (vs := [(0, Vi 5), (1, Vi 9), (2, Vi 0)]) #[Vi 5, Vi 9, Vi 0] 3 rfl rfl rfl (by kernel_rfl) (fun b1 w1 hq1 hb1 he1 hz1 => ?_)
 refine inl1 ?_
 have hms0 := hms
 replace hms := hms.ev he1
 replace hev := hev.ext he1
 have hs1 : SlR (eInt .i64) w1 (fl [[]]) (Ad b1 0) 3 ([5, 9, 0]) := ro_of_box hms0 hq1 hb1 rfl rfl (cells_at (cs := [Vi 5, Vi 9, Vi 0]) (CellsOf.cons (c := [Vi 5]) rfl (CellsOf.cons (c := [Vi 9]) rfl (CellsOf.cons (c := [Vi 0]) rfl CellsOf.nil))))
 clear hb1 hms0
 refine x_buildSlice (vs := [(0, Vi 10), (1, Vi 6), (2, Vi 9)]) #[Vi 10, Vi 6, Vi 9] 3 rfl rfl rfl (by kernel_rfl) (fun b3 w3 hq3 hb3 he3 hz3 => ?_)
 refine inl1 ?_
 have hms0 := hms
 have hst := Stp.ext (ls := [[]]) he3
 replace hs1 := hs1.step hst
 replace hms := hms.ev he3
 replace hev := hev.ext he3
 have hs3 : SlR (eInt .i64) w3 (fl [[]]) (Ad b3 0) 3 ([10, 6, 9]) := ro_of_box hms0 hq3 hb3 rfl rfl (cells_at (cs := [Vi 10, Vi 6, Vi 9]) (CellsOf.cons (c := [Vi 10]) rfl (CellsOf.cons (c := [Vi 6]) rfl (CellsOf.cons (c := [Vi 9]) rfl CellsOf.nil))))
 clear hb3 hms0
 obtain ⟨x5, hx, h⟩ := bind_some h
 have hpk : MS w3 ([] ++ [[]]) := hms.pick [some 0] _ rfl
 have hsb0 : ∀ x ∈ fl ([] ++ [[]]), x ∈ fl [[]] := pick_sub [some 0] _ rfl
 have hsb : ∀ x ∈ fl ([] ++ [(fl [[]])]), x ∈ fl [[]] := fun x hx => hsb0 x (fl_unfold x hx)
 have hcall := assign_Match_w (Ad b1 0) 3 ([5, 9, 0]) (Ad b3 0) 3 ([10, 6, 9]) _ w3 (fl [[]]) (MS.fold (P := []) hpk) (hs1.sub hsb) (hs3.sub hsb) hx
 refine x_call 8 #[] #[] [.slice (Ad b1 0) ([5, 9, 0]).length 3, .slice (Ad b3 0) ([10, 6, 9]).length 3] _ rfl rfl rfl rfl hcall ?_
 rintro v w6 ⟨a0_6, c0_6, a2_6, c2_6, rfl, he6, hmn6, hfn6, hf6_1, hf6_2⟩
 clear hcall hx
 refine inl1 ?_
 have hpk2 : MS w3 ([] ++ [[]]) := hms.pick [some 0] _ rfl
 have hsb2 : ∀ x ∈ fl ([] ++ [[]]), x ∈ fl [[]] := pick_sub [some 0] _ rfl
 have hst0 := Stp.call (LS := [[]]) (res := [blk a0_6, blk a2_6]) (par := []) (R := [[]]) he6 (fun b hb => hsb2 b (fl_left' (P := []) b hb)) hfn6 (NP.init _ _) (fun x hx => hsb2 x (fl_right' (P := []) x hx))
 have hsn : ∀ x ∈ fl [blk a0_6, blk a2_6, []], x ∈ fl ([blk a0_6, blk a2_6] ++ ([] ++ [[]])) := pick_sub [some 0, some 1, some 2] _ rfl
 have hst := hst0.res hsn
 replace hs1 := hs1.step hst
 replace hs3 := hs3.step hst
 replace hms : MS w6 [blk a0_6, blk a2_6, []] := (MS.call (P := []) (R := [[]]) (res := [blk a0_6, blk a2_6]) (par := []) hpk2 he6 hmn6 hfn6 (NP.init _ _)).pick [some 0, some 1, some 2] _ rfl
 have hfr2 : FR w.heap.size [blk a0_6, blk a2_6] := (FR.cons (fun b hb => Nat.le_trans hev.size (hfn6.at 0 rfl b hb)) (FR.cons (fun b hb => Nat.le_trans hev.size (hfn6.at 1 rfl b hb)) (FR.nil _)))
 replace hev := hev.ext he6
 replace hfr := hfr2
 clear hfr2
 replace hf6_1 := OwnS.plain (M' := fl [blk a0_6, blk a2_6, []]) (plain_int _) hf6_1
 replace hf6_2 := OwnS.plain (M' := fl [blk a0_6, blk a2_6, []]) (plain_int _) hf6_2
 clear hpk hsb hsb0 hpk2 hsb2 hst0 hsn hst
 have hpk : MS w6 [blk a2_6, []] := hms.pick [some 1, some 2] _ rfl
 have hsu : ∀ x ∈ fl [blk a2_6, []], x ∈ fl [blk a0_6, blk a2_6, []] := pick_sub [some 1, some 2] _ rfl
 replace hs1 := hs1.sub hsu
 replace hs3 := hs3.sub hsu
 replace hf6_1 := hf6_1.ro hsu (pick_out hms 0 rfl [some 1, some 2] [blk a2_6, []] rfl rfl)
 replace hf6_2 := hf6_2.sub hsu
 replace hms := hpk
 replace hfr : FR w.heap.size [blk a2_6] := hfr.pick [some 1] _ rfl
 clear hpk hsu
 have hpk : MS w6 [[]] := hms.pick [some 1] _ rfl
 have hsu : ∀ x ∈ fl [[]], x ∈ fl [blk a2_6, []] := pick_sub [some 1] _ rfl
 replace hs1 := hs1.sub hsu
 replace hs3 := hs3.sub hsu
 replace hf6_1 := hf6_1.sub hsu
 replace hf6_2 := hf6_2.ro hsu (pick_out hms 0 rfl [some 1] [[]] rfl rfl)
 replace hms := hpk
 replace hfr : FR w.heap.size [] := hfr.pick [] _ rfl
 clear hpk hsu
 refine x_pure 7 [(7, .tuple #[.slice a0_6 (x5.1).length c0_6, .slice a2_6 (x5.2.1).length c2_6, Vi x5.2.2]), (11, .slice a0_6 (x5.1).length c0_6), (12, .slice a2_6 (x5.2.1).length c2_6), (13, Vi x5.2.2), (1, .slice a0_6 (x5.1).length c0_6), (2, .slice a2_6 (x5.2.1).length c2_6), (3, Vi x5.2.2)] _ _ _ (by kernel_rfl) ?_
 refine x_ek ?_
 refine c_sp ?_
 refine x_buildSlice (vs := [(0, Vi 7), (1, Vi 8)]) #[Vi 7, Vi 8] 3 rfl rfl rfl (by kernel_rfl) (fun b9 w9 hq9 hb9 he9 hz9 => ?_)
 refine inl1 ?_
 have hms0 := hms
 have hst := Stp.ext (ls := [[]]) he9
 replace hf6_1 := hf6_1.step hst
 replace hms := hms.ev he9
 replace hev := hev.ext he9
 have hs9 : SlR (eInt .i64) w9 (fl [[]]) (Ad b9 0) 2 ([7, 8]) := ro_of_box hms0 hq9 hb9 rfl rfl (cells_at (cs := [Vi 7, Vi 8]) (CellsOf.cons (c := [Vi 7]) rfl (CellsOf.cons (c := [Vi 8]) rfl CellsOf.nil)))
 clear hb9 hms0
 refine x_buildSlice (vs := [(0, Vi 9), (1, Vi 6)]) #[Vi 9, Vi 6] 3 rfl rfl rfl (by kernel_rfl) (fun b11 w11 hq11 hb11 he11 hz11 => ?_)
 refine inl1 ?_
 have hms0 := hms
 have hst := Stp.ext (ls := [[]]) he11
 replace hf6_1 := hf6_1.step hst
 replace hs9 := hs9.step hst
 replace hms := hms.ev he11
 replace hev := hev.ext he11
 have hs11 : SlR (eInt .i64) w11 (fl [[]]) (Ad b11 0) 2 ([9, 6]) := ro_of_box hms0 hq11 hb11 rfl rfl (cells_at (cs := [Vi 9, Vi 6]) (CellsOf.cons (c := [Vi 9]) rfl (CellsOf.cons (c := [Vi 6]) rfl CellsOf.nil)))
 clear hb11 hms0
 obtain ⟨x13, hx, h⟩ := bind_some h
 have hpk : MS w11 ([] ++ [[]]) := hms.pick [some 0] _ rfl
 have hsb0 : ∀ x ∈ fl ([] ++ [[]]), x ∈ fl [[]] := pick_sub [some 0] _ rfl
 have hsb : ∀ x ∈ fl ([] ++ [(fl [[]])]), x ∈ fl [[]] := fun x hx => hsb0 x (fl_unfold x hx)
 have hcall := assign_Match_w (Ad b9 0) 2 ([7, 8]) (Ad b11 0) 2 ([9, 6]) _ w11 (fl [[]]) (MS.fold (P := []) hpk) (hs9.sub hsb) (hs11.sub hsb) hx
 refine x_call 8 #[] #[] [.slice (Ad b9 0) ([7, 8]).length 2, .slice (Ad b11 0) ([9, 6]).length 2] _ rfl rfl rfl rfl hcall ?_
 rintro v w14 ⟨a0_14, c0_14, a2_14, c2_14, rfl, he14, hmn14, hfn14, hf14_1, hf14_2⟩
 clear hcall hx
 refine inl1 ?_
 have hpk2 : MS w11 ([] ++ [[]]) := hms.pick [some 0] _ rfl
 have hsb2 : ∀ x ∈ fl ([] ++ [[]]), x ∈ fl [[]] := pick_sub [some 0] _ rfl
 have hst0 := Stp.call (LS := [[]]) (res := [blk a0_14, blk a2_14]) (par := []) (R := [[]]) he14 (fun b hb => hsb2 b (fl_left' (P := []) b hb)) hfn14 (NP.init _ _) (fun x hx => hsb2 x (fl_right' (P := []) x hx))
 have hsn : ∀ x ∈ fl [blk a0_14, blk a2_14, []], x ∈ fl ([blk a0_14, blk a2_14] ++ ([] ++ [[]])) := pick_sub [some 0, some 1, some 2] _ rfl
 have hst := hst0.res hsn
 replace hf6_1 := hf6_1.step hst
 replace hs9 := hs9.step hst
 replace hs11 := hs11.step hst
 replace hms : MS w14 [blk a0_14, blk a2_14, []] := (MS.call (P := []) (R := [[]]) (res := [blk a0_14, blk a2_14]) (par := []) hpk2 he14 hmn14 hfn14 (NP.init _ _)).pick [some 0, some 1, some 2] _ rfl
 have hfr2 : FR w.heap.size [blk a0_14, blk a2_14] := (FR.cons (fun b hb => Nat.le_trans hev.size (hfn14.at 0 rfl b hb)) (FR.cons (fun b hb => Nat.le_trans hev.size (hfn14.at 1 rfl b hb)) (FR.nil _)))
 replace hev := hev.ext he14
 replace hfr := hfr2
 clear hfr2
 replace hf14_1 := OwnS.plain (M' := fl [blk a0_14, blk a2_14, []]) (plain_int _) hf14_1
 replace hf14_2 := OwnS.plain (M' := fl [blk a0_14, blk a2_14, []]) (plain_int _) hf14_2
 clear hpk hsb hsb0 hpk2 hsb2 hst0 hsn hst
 have hpk : MS w14 [blk a2_14, []] := hms.pick [some 1, some 2] _ rfl
 have hsu : ∀ x ∈ fl [blk a2_14, []], x ∈ fl [blk a0_14, blk a2_14, []] := pick_sub [some 1, some 2] _ rfl
 replace hf6_1 := hf6_1.sub hsu
 replace hs9 := hs9.sub hsu
 replace hs11 := hs11.sub hsu
 replace hf14_1 := hf14_1.ro hsu (pick_out hms 0 rfl [some 1, some 2] [blk a2_14, []] rfl rfl)
 replace hf14_2 := hf14_2.sub hsu
 replace hms := hpk
 replace hfr : FR w.heap.size [blk a2_14] := hfr.pick [some 1] _ rfl
 clear hpk hsu
 have hpk : MS w14 [[]] := hms.pick [some 1] _ rfl
 have hsu : ∀ x ∈ fl [[]], x ∈ fl [blk a2_14, []] := pick_sub [some 1] _ rfl
 replace hf6_1 := hf6_1.sub hsu
 replace hs9 := hs9.sub hsu
 replace hs11 := hs11.sub hsu
 replace hf14_1 := hf14_1.sub hsu
 replace hf14_2 := hf14_2.ro hsu (pick_out hms 0 rfl [some 1] [[]] rfl rfl)
 replace hms := hpk
 replace hfr : FR w.heap.size [] := hfr.pick [] _ rfl
 clear hpk hsu
 refine x_pure 7 [(14, .tuple #[.slice a0_14 (x13.1).length c0_14, .slice a2_14 (x13.2.1).length c2_14, Vi x13.2.2]), (18, .slice a0_14 (x13.1).length c0_14), (19, .slice a2_14 (x13.2.1).length c2_14), (20, Vi x13.2.2), (4, .slice a0_14 (x13.1).length c0_14), (5, .slice a2_14 (x13.2.1).length c2_14), (6, Vi x13.2.2)] _ _ _ (by kernel_rfl) ?_
 refine x_ek ?_
 refine c_norm [(1, .slice a0_6 (x5.1).length c0_6), (3, Vi x5.2.2), (5, .slice a2_14 (x13.2.1).length c2_14), (6, Vi x13.2.2)] ⟨rfl, rfl, rfl, rfl, trivial⟩ (fun J => ?_)
 refine c_sp ?_
 refine x_pure 3 [(21, Vi x5.2.2), (22, .bool (x5.2.2 == 0)), (23, .bool (x5.2.2 == 0))] _ _ _ (by kernel_rfl) ?_
 refine x_split 23 (x5.2.2 == 0) rfl (fun hb => ?_) (fun hb => ?_)
 · replace h := ite_t hb h
   refine x_pure 1 [(24, .slice a0_6 (x5.1).length c0_6)] _ _ _ (by kernel_rfl) ?_
   refine x_buildSlice (vs := [(0, Vi 1), (1, Vi 2), (2, Vi (-1))]) #[Vi 1, Vi 2, Vi (-1)] 3 rfl rfl rfl (by kernel_rfl) (fun b17 w17 hq17 hb17 he17 hz17 => ?_)
   refine inl1 ?_
   have hms0 := hms
   have hst := Stp.ext (ls := [[]]) he17
   replace hf6_1 := hf6_1.step hst
   replace hf14_2 := hf14_2.step hst
   replace hms := hms.ev he17
   replace hev := hev.ext he17
   have hs17 : SlR (eInt .i64) w17 (fl [[]]) (Ad b17 0) 3 ([1, 2, (-1)]) := ro_of_box hms0 hq17 hb17 rfl rfl (cells_at (cs := [Vi 1, Vi 2, Vi (-1)]) (CellsOf.cons (c := [Vi 1]) rfl (CellsOf.cons (c := [Vi 2]) rfl (CellsOf.cons (c := [Vi (-1)]) rfl CellsOf.nil))))
   clear hb17 hms0
   obtain ⟨x19, hx, h⟩ := bind_some h
   have hpk : MS w17 ([] ++ [[]]) := hms.pick [some 0] _ rfl
   have hsb0 : ∀ x ∈ fl ([] ++ [[]]), x ∈ fl [[]] := pick_sub [some 0] _ rfl
   have hsb : ∀ x ∈ fl ([] ++ [(fl [[]])]), x ∈ fl [[]] := fun x hx => hsb0 x (fl_unfold x hx)
   have hcall := gen_Ints_w a0_6 c0_6 x5.1 (Ad b17 0) 3 ([1, 2, (-1)]) _ w17 (fl [[]]) (MS.fold (P := []) hpk) (hf6_1.sub hsb) (hs17.sub hsb) hx
   refine x_call 25 #[] #[] [.slice a0_6 (x5.1).length c0_6, .slice (Ad b17 0) ([1, 2, (-1)]).length 3] _ rfl rfl rfl rfl hcall ?_
   rintro v w20 ⟨rfl, he20⟩
   clear hcall hx
   refine inl1 ?_
   have hst := Stp.ext (ls := [[]]) he20
   replace hf6_1 := hf6_1.step hst
   replace hf14_2 := hf14_2.step hst
   replace hs17 := hs17.step hst
   replace hms := hms.ev he20
   replace hev := hev.ext he20
   clear hpk hsb hsb0
   refine x_pure 2 [(27, .bool x19), (28, .bool x19)] _ _ _ (by kernel_rfl) ?_
   refine x_split 28 x19 rfl (fun hb => ?_) (fun hb => ?_)
   · replace h := ite_t hb h
     refine x_pure 4 [(29, Vi x13.2.2), (30, .bool (x13.2.2 == 14)), (31, .bool (x13.2.2 == 14)), (32, .bool (x13.2.2 == 14))] _ _ _ (by kernel_rfl) ?_
     refine x_split 32 (x13.2.2 == 14) rfl (fun hb => ?_) (fun hb => ?_)
     · replace h := ite_t hb h
       refine x_pure 1 [(33, .slice a2_14 (x13.2.1).length c2_14)] _ _ _ (by kernel_rfl) ?_
       refine x_buildSlice (vs := [(0, Vi 0), (1, Vi 1)]) #[Vi 0, Vi 1] 3 rfl rfl rfl (by kernel_rfl) (fun b21 w21 hq21 hb21 he21 hz21 => ?_)
       refine inl1 ?_
       have hms0 := hms
       have hst := Stp.ext (ls := [[]]) he21
       replace hf6_1 := hf6_1.step hst
       replace hf14_2 := hf14_2.step hst
       replace hs17 := hs17.step hst
       replace hms := hms.ev he21
       replace hev := hev.ext he21
       have hs21 : SlR (eInt .i64) w21 (fl [[]]) (Ad b21 0) 2 ([0, 1]) := ro_of_box hms0 hq21 hb21 rfl rfl (cells_at (cs := [Vi 0, Vi 1]) (CellsOf.cons (c := [Vi 0]) rfl (CellsOf.cons (c := [Vi 1]) rfl CellsOf.nil)))
       clear hb21 hms0
       obtain ⟨x23, hx, h⟩ := bind_some h
       have hpk : MS w21 ([] ++ [[]]) := hms.pick [some 0] _ rfl
       have hsb0 : ∀ x ∈ fl ([] ++ [[]]), x ∈ fl [[]] := pick_sub [some 0] _ rfl
       have hsb : ∀ x ∈ fl ([] ++ [(fl [[]])]), x ∈ fl [[]] := fun x hx => hsb0 x (fl_unfold x hx)
       have hcall := gen_Ints_w a2_14 c2_14 x13.2.1 (Ad b21 0) 2 ([0, 1]) _ w21 (fl [[]]) (MS.fold (P := []) hpk) (hf14_2.sub hsb) (hs21.sub hsb) hx
       refine x_call 25 #[] #[] [.slice a2_14 (x13.2.1).length c2_14, .slice (Ad b21 0) ([0, 1]).length 2] _ rfl rfl rfl rfl hcall ?_
       rintro v w24 ⟨rfl, he24⟩
       clear hcall hx
       refine inl1 ?_
       have hst := Stp.ext (ls := [[]]) he24
       replace hf6_1 := hf6_1.step hst
       replace hf14_2 := hf14_2.step hst
       replace hs17 := hs17.step hst
       replace hs21 := hs21.step hst
       replace hms := hms.ev he24
       replace hev := hev.ext he24
       clear hpk hsb hsb0
       refine x_pure 2 [(36, .bool x23), (37, .bool x23)] _ _ _ (by kernel_rfl) ?_
       refine x_split 37 x23 rfl (fun hb => ?_) (fun hb => ?_)
       · replace h := ite_t hb h
         refine x_buildSlice (vs := [(0, Vi 7), (1, Vi 8)]) #[Vi 7, Vi 8] 3 rfl rfl rfl (by kernel_rfl) (fun b25 w25 hq25 hb25 he25 hz25 => ?_)
         refine inl1 ?_
         have hms0 := hms
         have hst := Stp.ext (ls := [[]]) he25
         replace hf6_1 := hf6_1.step hst
         replace hf14_2 := hf14_2.step hst
         replace hs17 := hs17.step hst
         replace hs21 := hs21.step hst
         replace hms := hms.ev he25
         replace hev := hev.ext he25
         have hs25 : SlR (eInt .i64) w25 (fl [[]]) (Ad b25 0) 2 ([7, 8]) := ro_of_box hms0 hq25 hb25 rfl rfl (cells_at (cs := [Vi 7, Vi 8]) (CellsOf.cons (c := [Vi 7]) rfl (CellsOf.cons (c := [Vi 8]) rfl CellsOf.nil)))
         clear hb25 hms0
         refine x_buildSlice (vs := [(0, Vi 9), (1, Vi 6)]) #[Vi 9, Vi 6] 3 rfl rfl rfl (by kernel_rfl) (fun b27 w27 hq27 hb27 he27 hz27 => ?_)
         refine inl1 ?_
         have hms0 := hms
         have hst := Stp.ext (ls := [[]]) he27
         replace hf6_1 := hf6_1.step hst
         replace hf14_2 := hf14_2.step hst
         replace hs17 := hs17.step hst
         replace hs21 := hs21.step hst
         replace hs25 := hs25.step hst
         replace hms := hms.ev he27
         replace hev := hev.ext he27
         have hs27 : SlR (eInt .i64) w27 (fl [[]]) (Ad b27 0) 2 ([9, 6]) := ro_of_box hms0 hq27 hb27 rfl rfl (cells_at (cs := [Vi 9, Vi 6]) (CellsOf.cons (c := [Vi 9]) rfl (CellsOf.cons (c := [Vi 6]) rfl CellsOf.nil)))
         clear hb27 hms0
         refine x_buildSlice (vs := [(0, Vi 0), (1, Vi 1)]) #[Vi 0, Vi 1] 3 rfl rfl rfl (by kernel_rfl) (fun b29 w29 hq29 hb29 he29 hz29 => ?_)
         refine inl1 ?_
         have hms0 := hms
         have hst := Stp.ext (ls := [[]]) he29
         replace hf6_1 := hf6_1.step hst
         replace hf14_2 := hf14_2.step hst
         replace hs17 := hs17.step hst
         replace hs21 := hs21.step hst
         replace hs25 := hs25.step hst
         replace hs27 := hs27.step hst
         replace hms := hms.ev he29
         replace hev := hev.ext he29
         have hs29 : SlR (eInt .i64) w29 (fl [[]]) (Ad b29 0) 2 ([0, 1]) := ro_of_box hms0 hq29 hb29 rfl rfl (cells_at (cs := [Vi 0, Vi 1]) (CellsOf.cons (c := [Vi 0]) rfl (CellsOf.cons (c := [Vi 1]) rfl CellsOf.nil)))
         clear hb29 hms0
         obtain ⟨x31, hx, h⟩ := bind_some h
         have hpk : MS w29 ([] ++ [[]]) := hms.pick [some 0] _ rfl
         have hsb0 : ∀ x ∈ fl ([] ++ [[]]), x ∈ fl [[]] := pick_sub [some 0] _ rfl
         have hsb : ∀ x ∈ fl ([] ++ [(fl [[]])]), x ∈ fl [[]] := fun x hx => hsb0 x (fl_unfold x hx)
         have hcall := assign_Refuses_w (Ad b25 0) 2 ([7, 8]) (Ad b27 0) 2 ([9, 6]) (Ad b29 0) 2 ([0, 1]) _ w29 (fl [[]]) (MS.fold (P := []) hpk) (hs25.sub hsb) (hs27.sub hsb) (hs29.sub hsb) hx
         refine x_call 10 #[] #[] [.slice (Ad b25 0) ([7, 8]).length 2, .slice (Ad b27 0) ([9, 6]).length 2, .slice (Ad b29 0) ([0, 1]).length 2] _ rfl rfl rfl rfl hcall ?_
         rintro v w32 ⟨rfl, he32⟩
         clear hcall hx
         refine inl1 ?_
         have hst := Stp.ext (ls := [[]]) he32
         replace hf6_1 := hf6_1.step hst
         replace hf14_2 := hf14_2.step hst
         replace hs17 := hs17.step hst
         replace hs21 := hs21.step hst
         replace hs25 := hs25.step hst
         replace hs27 := hs27.step hst
         replace hs29 := hs29.step hst
         replace hms := hms.ev he32
         replace hev := hev.ext he32
         clear hpk hsb hsb0
         refine x_pure 2 [(42, .bool x31), (43, .bool x31)] _ _ _ (by kernel_rfl) ?_
         refine x_split 43 x31 rfl (fun hb => ?_) (fun hb => ?_)
         · replace h := ite_t hb h
           refine x_buildSlice (vs := [(0, Vi 5), (1, Vi 9), (2, Vi 0)]) #[Vi 5, Vi 9, Vi 0] 3 rfl rfl rfl (by kernel_rfl) (fun b33 w33 hq33 hb33 he33 hz33 => ?_)
           refine inl1 ?_
           have hms0 := hms
           have hst := Stp.ext (ls := [[]]) he33
           replace hf6_1 := hf6_1.step hst
           replace hf14_2 := hf14_2.step hst
           replace hs17 := hs17.step hst
           replace hs21 := hs21.step hst
           replace hs25 := hs25.step hst
           replace hs27 := hs27.step hst
           replace hs29 := hs29.step hst
           replace hms := hms.ev he33
           replace hev := hev.ext he33
           have hs33 : SlR (eInt .i64) w33 (fl [[]]) (Ad b33 0) 3 ([5, 9, 0]) := ro_of_box hms0 hq33 hb33 rfl rfl (cells_at (cs := [Vi 5, Vi 9, Vi 0]) (CellsOf.cons (c := [Vi 5]) rfl (CellsOf.cons (c := [Vi 9]) rfl (CellsOf.cons (c := [Vi 0]) rfl CellsOf.nil))))
           clear hb33 hms0
           refine x_buildSlice (vs := [(0, Vi 10), (1, Vi 6), (2, Vi 9)]) #[Vi 10, Vi 6, Vi 9] 3 rfl rfl rfl (by kernel_rfl) (fun b35 w35 hq35 hb35 he35 hz35 => ?_)
           refine inl1 ?_
           have hms0 := hms
           have hst := Stp.ext (ls := [[]]) he35
           replace hf6_1 := hf6_1.step hst
           replace hf14_2 := hf14_2.step hst
           replace hs17 := hs17.step hst
           replace hs21 := hs21.step hst
           replace hs25 := hs25.step hst
           replace hs27 := hs27.step hst
           replace hs29 := hs29.step hst
           replace hs33 := hs33.step hst
           replace hms := hms.ev he35
           replace hev := hev.ext he35
           have hs35 : SlR (eInt .i64) w35 (fl [[]]) (Ad b35 0) 3 ([10, 6, 9]) := ro_of_box hms0 hq35 hb35 rfl rfl (cells_at (cs := [Vi 10, Vi 6, Vi 9]) (CellsOf.cons (c := [Vi 10]) rfl (CellsOf.cons (c := [Vi 6]) rfl (CellsOf.cons (c := [Vi 9]) rfl CellsOf.nil))))
           clear hb35 hms0
           refine x_buildSlice (vs := [(0, Vi 0), (1, Vi 2), (2, Vi (-1))]) #[Vi 0, Vi 2, Vi (-1)] 3 rfl rfl rfl (by kernel_rfl) (fun b37 w37 hq37 hb37 he37 hz37 => ?_)
           refine inl1 ?_
           have hms0 := hms
           have hst := Stp.ext (ls := [[]]) he37
           replace hf6_1 := hf6_1.step hst
           replace hf14_2 := hf14_2.step hst
           replace hs17 := hs17.step hst
           replace hs21 := hs21.step hst
           replace hs25 := hs25.step hst
           replace hs27 := hs27.step hst
           replace hs29 := hs29.step hst
           replace hs33 := hs33.step hst
           replace hs35 := hs35.step hst
           replace hms := hms.ev he37
           replace hev := hev.ext he37
           have hs37 : SlR (eInt .i64) w37 (fl [[]]) (Ad b37 0) 3 ([0, 2, (-1)]) := ro_of_box hms0 hq37 hb37 rfl rfl (cells_at (cs := [Vi 0, Vi 2, Vi (-1)]) (CellsOf.cons (c := [Vi 0]) rfl (CellsOf.cons (c := [Vi 2]) rfl (CellsOf.cons (c := [Vi (-1)]) rfl CellsOf.nil))))
           clear hb37 hms0
           obtain ⟨x39, hx, h⟩ := bind_some h
           have hpk : MS w37 ([] ++ [[]]) := hms.pick [some 0] _ rfl
           have hsb0 : ∀ x ∈ fl ([] ++ [[]]), x ∈ fl [[]] := pick_sub [some 0] _ rfl
           have hsb : ∀ x ∈ fl ([] ++ [(fl [[]])]), x ∈ fl [[]] := fun x hx => hsb0 x (fl_unfold x hx)
           have hcall := assign_Fits_w (Ad b33 0) 3 ([5, 9, 0]) (Ad b35 0) 3 ([10, 6, 9]) (Ad b37 0) 3 ([0, 2, (-1)]) _ w37 (fl [[]]) (MS.fold (P := []) hpk) (hs33.sub hsb) (hs35.sub hsb) (hs37.sub hsb) hx
           refine x_call 11 #[] #[] [.slice (Ad b33 0) ([5, 9, 0]).length 3, .slice (Ad b35 0) ([10, 6, 9]).length 3, .slice (Ad b37 0) ([0, 2, (-1)]).length 3] _ rfl rfl rfl rfl hcall ?_
           rintro v w40 ⟨rfl, he40⟩
           clear hcall hx
           refine inl1 ?_
           have hst := Stp.ext (ls := [[]]) he40
           replace hf6_1 := hf6_1.step hst
           replace hf14_2 := hf14_2.step hst
           replace hs17 := hs17.step hst
           replace hs21 := hs21.step hst
           replace hs25 := hs25.step hst
           replace hs27 := hs27.step hst
           replace hs29 := hs29.step hst
           replace hs33 := hs33.step hst
           replace hs35 := hs35.step hst
           replace hs37 := hs37.step hst
           replace hms := hms.ev he40
           replace hev := hev.ext he40
           clear hpk hsb hsb0
           refine x_pure 2 [(48, .bool x39), (0, .bool x39)] _ _ _ (by kernel_rfl) ?_
           refine x_ek ?_
           refine c_norm [(0, .bool x39)] ⟨rfl, trivial⟩ (fun J => ?_)
           refine c_ret ?_
           refine r_ret (r_vals [.bool x39] ⟨rfl, trivial⟩ ?_)
           have hx := some_inj h
           subst hx
           exact ⟨rfl, hev⟩
         replace h := ite_f hb h
         refine x_pure 6 [(44, undef), (45, undef), (46, undef), (47, undef), (48, .bool false), (0, .bool false)] _ _ _ (by kernel_rfl) ?_
         refine x_ek ?_
         refine c_norm [(0, .bool false)] ⟨rfl, trivial⟩ (fun J => ?_)
         refine c_ret ?_
         refine r_ret (r_vals [.bool false] ⟨rfl, trivial⟩ ?_)
         have hx := some_inj h
         subst hx
         exact ⟨rfl, hev⟩
       replace h := ite_f hb h
       refine x_pure 12 [(38, undef), (39, undef), (40, undef), (41, undef), (42, .bool false), (43, .bool false), (44, undef), (45, undef), (46, undef), (47, undef), (48, .bool false), (0, .bool false)] _ _ _ (by kernel_rfl) ?_
       refine x_ek ?_
       refine c_norm [(0, .bool false)] ⟨rfl, trivial⟩ (fun J => ?_)
       refine c_ret ?_
       refine r_ret (r_vals [.bool false] ⟨rfl, trivial⟩ ?_)
       have hx := some_inj h
       subst hx
       exact ⟨rfl, hev⟩
     replace h := ite_f hb h
     refine x_pure 17 [(33, undef), (34, undef), (35, undef), (36, .bool false), (37, .bool false), (38, undef), (39, undef), (40, undef), (41, undef), (42, .bool false), (43, .bool false), (44, undef), (45, undef), (46, undef), (47, undef), (48, .bool false), (0, .bool false)] _ _ _ (by kernel_rfl) ?_
     refine x_ek ?_
     refine c_norm [(0, .bool false)] ⟨rfl, trivial⟩ (fun J => ?_)
     refine c_ret ?_
     refine r_ret (r_vals [.bool false] ⟨rfl, trivial⟩ ?_)
     have hx := some_inj h
     subst hx
     exact ⟨rfl, hev⟩
   replace h := ite_f hb h
   refine x_pure 21 [(29, undef), (30, undef), (31, .bool false), (32, .bool false), (33, undef), (34, undef), (35, undef), (36, .bool false), (37, .bool false), (38, undef), (39, undef), (40, undef), (41, undef), (42, .bool false), (43, .bool false), (44, undef), (45, undef), (46, undef), (47, undef), (48, .bool false), (0, .bool false)] _ _ _ (by kernel_rfl) ?_
   refine x_ek ?_
   refine c_norm [(0, .bool false)] ⟨rfl, trivial⟩ (fun J => ?_)
   refine c_ret ?_
   refine r_ret (r_vals [.bool false] ⟨rfl, trivial⟩ ?_)
   have hx := some_inj h
   subst hx
   exact ⟨rfl, hev⟩
 replace h := ite_f hb h
 refine x_pure 26 [(24, undef), (25, undef), (26, undef), (27, .bool false), (28, .bool false), (29, undef), (30, undef), (31, .bool false), (32, .bool false), (33, undef), (34, undef), (35, undef), (36, .bool false), (37, .bool false), (38, undef), (39, undef), (40, undef), (41, undef), (42, .bool false), (43, .bool false), (44, undef), (45, undef), (46, undef), (47, undef), (48, .bool false), (0, .bool false)] _ _ _ (by kernel_rfl) ?_
 refine x_ek ?_
 refine c_norm [(0, .bool false)] ⟨rfl, trivial⟩ (fun J => ?_)
 refine c_ret ?_
 refine r_ret (r_vals [.bool false] ⟨rfl, trivial⟩ ?_)
 have hx := some_inj h
 subst hx
 exact ⟨rfl, hev⟩
end Go.Proofs.Ytdbomhhcebmkpaa
