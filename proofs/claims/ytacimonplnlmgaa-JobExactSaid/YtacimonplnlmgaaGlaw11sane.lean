/- Walks, printed by program: each function returns what the partial function of the same name returns. Conditions: those of each theorem. -/
import Derived.Test.YtacimonplnlmgaaGT
import Derived.Test.YtacimonplnlmgaaGgen
import Derived.Test.YtacimonplnlmgaaGjob
import Derived.Test.YtacimonplnlmgaaGlaw11four
set_option linter.unusedVariables false
set_option linter.unusedSimpArgs false
set_option maxRecDepth 4000
namespace Go.Proofs.Ytacimonplnlmgaa
open Go Go.V Go.Proofs
def law11_sane : Option Bool :=
((law11_four).bind fun x1 =>
((job_Levels x1.1 x1.2).bind fun x4 =>
((law11_four).bind fun x7 =>
((job_Deepest x7.1 x7.2).bind fun x10 =>
((law11_four).bind fun x13 =>
((job_Sorted x13.1 x13.2 ([[2, 0, 3, 1]] : List (List Int))).bind fun x20 =>
(if (x4.2 == 0) = true then
((gen_Ints x4.1 ([1, 2, 0, 1])).bind fun x24 =>
(if x24 = true then
(if (x10.2 == 0) = true then
((gen_Ints x10.1 ([2, 0, 3, 1])).bind fun x28 =>
(if x28 = true then
(if (x20.2 == 0) = true then
some x20.1
else
some false)
else
some false))
else
some false)
else
some false))
else
some false)))))))

theorem law11_sane_w (r : Bool) (w : World) (h : law11_sane = some r) : CallVC Try.prog 12 [] w fun v w' => v = .bool r ∧ Ev [] w w' := by
  refine calls_vc hmx Try.func12 (by kernel_rfl) rfl (rs := [.tmp 0]) rfl (by kernel_rfl) (args := []) rfl ?_
  have hev : Ev [] w w := Ev.refl _ _
  have hms : MS w [[]] := ⟨List.pairwise_singleton _ _, fun l hl b hb => by simp only [List.mem_singleton] at hl; subst hl; cases hb⟩
  have hfr : FR w.heap.size [] := FR.nil _
  refine c_seq (c_plain ?_)
  refine x_pure 1 [(0, .bool false)] _ _ _ (by kernel_rfl) ?_
  refine x_end rfl (k_then ?_)
  refine c_seq (c_plain ?_)
  obtain ⟨x1, hx, h⟩ := bind_some h
  have hpk : MS w ([] ++ [[]]) := hms.pick [some 0] _ rfl
  have hsb0 : ∀ x ∈ fl ([] ++ [[]]), x ∈ fl [[]] := pick_sub [some 0] _ rfl
  have hsb : ∀ x ∈ fl ([] ++ [(fl [[]])]), x ∈ fl [[]] := fun x hx => hsb0 x (fl_unfold x hx)
  have hcall := law11_four_w _ w (fl [[]]) (MS.fold (P := []) hpk)  hx
  refine x_call 21 #[] #[] [] _ rfl rfl rfl rfl hcall ?_
  rintro v w2 ⟨a0_2, c0_2, rfl, he2, hf2_1⟩
  clear hcall hx
  refine ⟨.inl rfl, ?_⟩
  replace hms := hms.ev he2
  replace hev := hev.ext he2
  have hsp : ∀ x ∈ fl [[]], x ∈ fl ([] ++ [(fl [[]])]) := fun x hx => fl_fold (P := []) x (pick_sup [some 0] [[]] rfl rfl x hx)
  replace hf2_1 := hf2_1.sub hsp
  clear hpk hsb hsb0
  obtain ⟨x4, hx, h⟩ := bind_some h
  have hpk : MS w2 ([] ++ [[]]) := hms.pick [some 0] _ rfl
  have hsb0 : ∀ x ∈ fl ([] ++ [[]]), x ∈ fl [[]] := pick_sub [some 0] _ rfl
  have hsb : ∀ x ∈ fl ([] ++ [(fl [[]])]), x ∈ fl [[]] := fun x hx => hsb0 x (fl_unfold x hx)
  have hcall := job_Levels_w a0_2 c0_2 x1.1 x1.2 _ w2 (fl [[]]) (MS.fold (P := []) hpk) (hf2_1.sub hsb) hx
  refine x_call 10 #[] #[] [.agg #[.slice a0_2 (x1.1).length c0_2, .int .i64 x1.2]] _ rfl rfl rfl rfl hcall ?_
  rintro v w5 ⟨a0_5, c0_5, rfl, he5, hmn5, hfn5, hf5_1⟩
  clear hcall hx
  refine ⟨.inl rfl, ?_⟩
  have hpk2 : MS w2 ([] ++ [[]]) := hms.pick [some 0] _ rfl
  have hsb2 : ∀ x ∈ fl ([] ++ [[]]), x ∈ fl [[]] := pick_sub [some 0] _ rfl
  have hst0 := Stp.call (LS := [[]]) (res := [blk a0_5]) (par := []) (R := [[]]) he5 (fun b hb => hsb2 b (fl_left' (P := []) b hb)) hfn5 (NP.init _ _) (fun x hx => hsb2 x (fl_right' (P := []) x hx))
  have hsn : ∀ x ∈ fl [blk a0_5, []], x ∈ fl ([blk a0_5] ++ ([] ++ [[]])) := pick_sub [some 0, some 1] _ rfl
  have hst := hst0.res hsn
  replace hf2_1 := hf2_1.step hst
  replace hms : MS w5 [blk a0_5, []] := (MS.call (P := []) (R := [[]]) (res := [blk a0_5]) (par := []) hpk2 he5 hmn5 hfn5 (NP.init _ _)).pick [some 0, some 1] _ rfl
  have hfr2 : FR w.heap.size [blk a0_5] := (FR.cons (fun b hb => Nat.le_trans hev.size (hfn5.at 0 rfl b hb)) (FR.nil _))
  replace hev := hev.ext he5
  replace hfr := hfr2
  clear hfr2
  replace hf5_1 := OwnS.plain (M' := fl [blk a0_5, []]) (plain_int _) hf5_1
  clear hpk hsb hsb0 hpk2 hsb2 hst0 hsn hst
  have hpk : MS w5 [[]] := hms.pick [some 1] _ rfl
  have hsu : ∀ x ∈ fl [[]], x ∈ fl [blk a0_5, []] := pick_sub [some 1] _ rfl
  replace hf2_1 := hf2_1.sub hsu
  replace hf5_1 := hf5_1.ro hsu (pick_out hms 0 rfl [some 1] [[]] rfl rfl)
  replace hms := hpk
  replace hfr : FR w.heap.size [] := hfr.pick [] _ rfl
  clear hpk hsu
  refine x_pure 5 [(7, .tuple #[.slice a0_5 (x4.1).length c0_5, .int .i64 x4.2]), (10, .slice a0_5 (x4.1).length c0_5), (11, .int .i64 x4.2), (1, .slice a0_5 (x4.1).length c0_5), (2, .int .i64 x4.2)] _ _ _ (by kernel_rfl) ?_
  refine x_end rfl (k_then ?_)
  refine c_seq (c_plain ?_)
  obtain ⟨x7, hx, h⟩ := bind_some h
  have hpk : MS w5 ([] ++ [[]]) := hms.pick [some 0] _ rfl
  have hsb0 : ∀ x ∈ fl ([] ++ [[]]), x ∈ fl [[]] := pick_sub [some 0] _ rfl
  have hsb : ∀ x ∈ fl ([] ++ [(fl [[]])]), x ∈ fl [[]] := fun x hx => hsb0 x (fl_unfold x hx)
  have hcall := law11_four_w _ w5 (fl [[]]) (MS.fold (P := []) hpk)  hx
  refine x_call 21 #[] #[] [] _ rfl rfl rfl rfl hcall ?_
  rintro v w8 ⟨a0_8, c0_8, rfl, he8, hf8_1⟩
  clear hcall hx
  refine ⟨.inl rfl, ?_⟩
  have hst := Stp.ext (ls := [[]]) he8
  replace hf5_1 := hf5_1.step hst
  replace hms := hms.ev he8
  replace hev := hev.ext he8
  have hsp : ∀ x ∈ fl [[]], x ∈ fl ([] ++ [(fl [[]])]) := fun x hx => fl_fold (P := []) x (pick_sup [some 0] [[]] rfl rfl x hx)
  replace hf8_1 := hf8_1.sub hsp
  clear hpk hsb hsb0
  obtain ⟨x10, hx, h⟩ := bind_some h
  have hpk : MS w8 ([] ++ [[]]) := hms.pick [some 0] _ rfl
  have hsb0 : ∀ x ∈ fl ([] ++ [[]]), x ∈ fl [[]] := pick_sub [some 0] _ rfl
  have hsb : ∀ x ∈ fl ([] ++ [(fl [[]])]), x ∈ fl [[]] := fun x hx => hsb0 x (fl_unfold x hx)
  have hcall := job_Deepest_w a0_8 c0_8 x7.1 x7.2 _ w8 (fl [[]]) (MS.fold (P := []) hpk) (hf8_1.sub hsb) hx
  refine x_call 22 #[] #[] [.agg #[.slice a0_8 (x7.1).length c0_8, .int .i64 x7.2]] _ rfl rfl rfl rfl hcall ?_
  rintro v w11 ⟨a0_11, c0_11, rfl, he11, hmn11, hfn11, hf11_1⟩
  clear hcall hx
  refine ⟨.inl rfl, ?_⟩
  have hpk2 : MS w8 ([] ++ [[]]) := hms.pick [some 0] _ rfl
  have hsb2 : ∀ x ∈ fl ([] ++ [[]]), x ∈ fl [[]] := pick_sub [some 0] _ rfl
  have hst0 := Stp.call (LS := [[]]) (res := [blk a0_11]) (par := []) (R := [[]]) he11 (fun b hb => hsb2 b (fl_left' (P := []) b hb)) hfn11 (NP.init _ _) (fun x hx => hsb2 x (fl_right' (P := []) x hx))
  have hsn : ∀ x ∈ fl [blk a0_11, []], x ∈ fl ([blk a0_11] ++ ([] ++ [[]])) := pick_sub [some 0, some 1] _ rfl
  have hst := hst0.res hsn
  replace hf5_1 := hf5_1.step hst
  replace hf8_1 := hf8_1.step hst
  replace hms : MS w11 [blk a0_11, []] := (MS.call (P := []) (R := [[]]) (res := [blk a0_11]) (par := []) hpk2 he11 hmn11 hfn11 (NP.init _ _)).pick [some 0, some 1] _ rfl
  have hfr2 : FR w.heap.size [blk a0_11] := (FR.cons (fun b hb => Nat.le_trans hev.size (hfn11.at 0 rfl b hb)) (FR.nil _))
  replace hev := hev.ext he11
  replace hfr := hfr2
  clear hfr2
  replace hf11_1 := OwnS.plain (M' := fl [blk a0_11, []]) (plain_int _) hf11_1
  clear hpk hsb hsb0 hpk2 hsb2 hst0 hsn hst
  have hpk : MS w11 [[]] := hms.pick [some 1] _ rfl
  have hsu : ∀ x ∈ fl [[]], x ∈ fl [blk a0_11, []] := pick_sub [some 1] _ rfl
  replace hf5_1 := hf5_1.sub hsu
  replace hf8_1 := hf8_1.sub hsu
  replace hf11_1 := hf11_1.ro hsu (pick_out hms 0 rfl [some 1] [[]] rfl rfl)
  replace hms := hpk
  replace hfr : FR w.heap.size [] := hfr.pick [] _ rfl
  clear hpk hsu
  refine x_pure 5 [(12, .tuple #[.slice a0_11 (x10.1).length c0_11, .int .i64 x10.2]), (15, .slice a0_11 (x10.1).length c0_11), (16, .int .i64 x10.2), (3, .slice a0_11 (x10.1).length c0_11), (4, .int .i64 x10.2)] _ _ _ (by kernel_rfl) ?_
  refine x_end rfl (k_then ?_)
  refine c_norm [(1, .slice a0_5 (x4.1).length c0_5), (2, .int .i64 x4.2), (3, .slice a0_11 (x10.1).length c0_11), (4, .int .i64 x10.2)] ⟨rfl, rfl, rfl, rfl, trivial⟩ (fun J => ?_)
  refine c_seq (c_plain ?_)
  obtain ⟨x13, hx, h⟩ := bind_some h
  have hpk : MS w11 ([] ++ [[]]) := hms.pick [some 0] _ rfl
  have hsb0 : ∀ x ∈ fl ([] ++ [[]]), x ∈ fl [[]] := pick_sub [some 0] _ rfl
  have hsb : ∀ x ∈ fl ([] ++ [(fl [[]])]), x ∈ fl [[]] := fun x hx => hsb0 x (fl_unfold x hx)
  have hcall := law11_four_w _ w11 (fl [[]]) (MS.fold (P := []) hpk)  hx
  refine x_call 21 #[] #[] [] _ rfl rfl rfl rfl hcall ?_
  rintro v w14 ⟨a0_14, c0_14, rfl, he14, hf14_1⟩
  clear hcall hx
  refine ⟨.inl rfl, ?_⟩
  have hst := Stp.ext (ls := [[]]) he14
  replace hf5_1 := hf5_1.step hst
  replace hf11_1 := hf11_1.step hst
  replace hms := hms.ev he14
  replace hev := hev.ext he14
  have hsp : ∀ x ∈ fl [[]], x ∈ fl ([] ++ [(fl [[]])]) := fun x hx => fl_fold (P := []) x (pick_sup [some 0] [[]] rfl rfl x hx)
  replace hf14_1 := hf14_1.sub hsp
  clear hpk hsb hsb0
  refine x_buildSlice (vs := [(0, .int .i64 2), (1, .int .i64 0), (2, .int .i64 3), (3, .int .i64 1)]) #[.int .i64 2, .int .i64 0, .int .i64 3, .int .i64 1] 3 rfl rfl rfl (by kernel_rfl) (fun b16 w16 hq16 hb16 he16 hz16 => ?_)
  refine ⟨.inl rfl, ?_⟩
  have hms0 := hms
  have hst := Stp.ext (ls := [[]]) he16
  replace hf5_1 := hf5_1.step hst
  replace hf11_1 := hf11_1.step hst
  replace hf14_1 := hf14_1.step hst
  replace hms := hms.ev he16
  replace hev := hev.ext he16
  have hs16 : SlR (eInt .i64) w16 (fl [[]]) (some ⟨b16, 0, none⟩) 4 ([2, 0, 3, 1]) := ro_of_box hms0 hq16 hb16 rfl rfl (cells_at (cs := [.int .i64 2, .int .i64 0, .int .i64 3, .int .i64 1]) (CellsOf.cons (c := [.int .i64 2]) rfl (CellsOf.cons (c := [.int .i64 0]) rfl (CellsOf.cons (c := [.int .i64 3]) rfl (CellsOf.cons (c := [.int .i64 1]) rfl CellsOf.nil)))))
  clear hb16 hms0
  refine x_buildSlice (vs := [(0, .slice (some ⟨b16, 0, none⟩) ([2, 0, 3, 1]).length 4)]) #[.slice (some ⟨b16, 0, none⟩) ([2, 0, 3, 1]).length 4] 27 rfl rfl rfl (by kernel_rfl) (fun b18 w18 hq18 hb18 he18 hz18 => ?_)
  refine ⟨.inl rfl, ?_⟩
  have hms0 := hms
  have hst := Stp.ext (ls := [[]]) he18
  replace hf5_1 := hf5_1.step hst
  replace hf11_1 := hf11_1.step hst
  replace hf14_1 := hf14_1.step hst
  replace hs16 := hs16.step hst
  replace hms := hms.ev he18
  replace hev := hev.ext he18
  have hs18 : SlR (eSl (eInt .i64)) w18 (fl [[]]) (some ⟨b18, 0, none⟩) 1 ([[2, 0, 3, 1]] : List (List Int)) := ro_of_box hms0 hq18 hb18 rfl rfl (cells_at (cs := [.slice (some ⟨b16, 0, none⟩) ([2, 0, 3, 1]).length 4]) (CellsOf.cons (c := [.slice (some ⟨b16, 0, none⟩) ([2, 0, 3, 1]).length 4]) ⟨(some ⟨b16, 0, none⟩), 4, rfl, hs16⟩ CellsOf.nil))
  clear hb18 hms0
  obtain ⟨x20, hx, h⟩ := bind_some h
  have hpk : MS w18 ([] ++ [[]]) := hms.pick [some 0] _ rfl
  have hsb0 : ∀ x ∈ fl ([] ++ [[]]), x ∈ fl [[]] := pick_sub [some 0] _ rfl
  have hsb : ∀ x ∈ fl ([] ++ [(fl [[]])]), x ∈ fl [[]] := fun x hx => hsb0 x (fl_unfold x hx)
  have hcall := job_Sorted_w a0_14 c0_14 x13.1 x13.2 (some ⟨b18, 0, none⟩) 1 ([[2, 0, 3, 1]] : List (List Int)) _ w18 (fl [[]]) (MS.fold (P := []) hpk) (hf14_1.sub hsb) (hs18.sub hsb) hx
  refine x_call 15 #[] #[] [.agg #[.slice a0_14 (x13.1).length c0_14, .int .i64 x13.2], .slice (some ⟨b18, 0, none⟩) (([[2, 0, 3, 1]] : List (List Int))).length 1] _ rfl rfl rfl rfl hcall ?_
  rintro v w21 ⟨rfl, he21⟩
  clear hcall hx
  refine ⟨.inl rfl, ?_⟩
  have hst := Stp.ext (ls := [[]]) he21
  replace hf5_1 := hf5_1.step hst
  replace hf11_1 := hf11_1.step hst
  replace hf14_1 := hf14_1.step hst
  replace hs16 := hs16.step hst
  replace hs18 := hs18.step hst
  replace hms := hms.ev he21
  replace hev := hev.ext he21
  clear hpk hsb hsb0
  refine x_pure 5 [(17, .tuple #[.bool x20.1, .int .i64 x20.2]), (22, .bool x20.1), (23, .int .i64 x20.2), (5, .bool x20.1), (6, .int .i64 x20.2)] _ _ _ (by kernel_rfl) ?_
  refine x_end rfl (k_then ?_)
  refine c_seq (c_plain ?_)
  refine x_pure 3 [(24, .int .i64 x4.2), (25, .bool (x4.2 == 0)), (26, .bool (x4.2 == 0))] _ _ _ (by kernel_rfl) ?_
  refine x_split 26 (x4.2 == 0) rfl (fun hb => ?_) (fun hb => ?_)
  · replace h := ite_t hb h
    refine x_pure 1 [(27, .slice a0_5 (x4.1).length c0_5)] _ _ _ (by kernel_rfl) ?_
    refine x_buildSlice (vs := [(0, .int .i64 1), (1, .int .i64 2), (2, .int .i64 0), (3, .int .i64 1)]) #[.int .i64 1, .int .i64 2, .int .i64 0, .int .i64 1] 3 rfl rfl rfl (by kernel_rfl) (fun b22 w22 hq22 hb22 he22 hz22 => ?_)
    refine ⟨.inl rfl, ?_⟩
    have hms0 := hms
    have hst := Stp.ext (ls := [[]]) he22
    replace hf5_1 := hf5_1.step hst
    replace hf11_1 := hf11_1.step hst
    replace hms := hms.ev he22
    replace hev := hev.ext he22
    have hs22 : SlR (eInt .i64) w22 (fl [[]]) (some ⟨b22, 0, none⟩) 4 ([1, 2, 0, 1]) := ro_of_box hms0 hq22 hb22 rfl rfl (cells_at (cs := [.int .i64 1, .int .i64 2, .int .i64 0, .int .i64 1]) (CellsOf.cons (c := [.int .i64 1]) rfl (CellsOf.cons (c := [.int .i64 2]) rfl (CellsOf.cons (c := [.int .i64 0]) rfl (CellsOf.cons (c := [.int .i64 1]) rfl CellsOf.nil)))))
    clear hb22 hms0
    obtain ⟨x24, hx, h⟩ := bind_some h
    have hpk : MS w22 ([] ++ [[]]) := hms.pick [some 0] _ rfl
    have hsb0 : ∀ x ∈ fl ([] ++ [[]]), x ∈ fl [[]] := pick_sub [some 0] _ rfl
    have hsb : ∀ x ∈ fl ([] ++ [(fl [[]])]), x ∈ fl [[]] := fun x hx => hsb0 x (fl_unfold x hx)
    have hcall := gen_Ints_w a0_5 c0_5 x4.1 (some ⟨b22, 0, none⟩) 4 ([1, 2, 0, 1]) _ w22 (fl [[]]) (MS.fold (P := []) hpk) (hf5_1.sub hsb) (hs22.sub hsb) hx
    refine x_call 16 #[] #[] [.slice a0_5 (x4.1).length c0_5, .slice (some ⟨b22, 0, none⟩) ([1, 2, 0, 1]).length 4] _ rfl rfl rfl rfl hcall ?_
    rintro v w25 ⟨rfl, he25⟩
    clear hcall hx
    refine ⟨.inl rfl, ?_⟩
    have hst := Stp.ext (ls := [[]]) he25
    replace hf5_1 := hf5_1.step hst
    replace hf11_1 := hf11_1.step hst
    replace hs22 := hs22.step hst
    replace hms := hms.ev he25
    replace hev := hev.ext he25
    clear hpk hsb hsb0
    refine x_pure 2 [(30, .bool x24), (31, .bool x24)] _ _ _ (by kernel_rfl) ?_
    refine x_split 31 x24 rfl (fun hb => ?_) (fun hb => ?_)
    · replace h := ite_t hb h
      refine x_pure 4 [(32, .int .i64 x10.2), (33, .bool (x10.2 == 0)), (34, .bool (x10.2 == 0)), (35, .bool (x10.2 == 0))] _ _ _ (by kernel_rfl) ?_
      refine x_split 35 (x10.2 == 0) rfl (fun hb => ?_) (fun hb => ?_)
      · replace h := ite_t hb h
        refine x_pure 1 [(36, .slice a0_11 (x10.1).length c0_11)] _ _ _ (by kernel_rfl) ?_
        refine x_buildSlice (vs := [(0, .int .i64 2), (1, .int .i64 0), (2, .int .i64 3), (3, .int .i64 1)]) #[.int .i64 2, .int .i64 0, .int .i64 3, .int .i64 1] 3 rfl rfl rfl (by kernel_rfl) (fun b26 w26 hq26 hb26 he26 hz26 => ?_)
        refine ⟨.inl rfl, ?_⟩
        have hms0 := hms
        have hst := Stp.ext (ls := [[]]) he26
        replace hf5_1 := hf5_1.step hst
        replace hf11_1 := hf11_1.step hst
        replace hs22 := hs22.step hst
        replace hms := hms.ev he26
        replace hev := hev.ext he26
        have hs26 : SlR (eInt .i64) w26 (fl [[]]) (some ⟨b26, 0, none⟩) 4 ([2, 0, 3, 1]) := ro_of_box hms0 hq26 hb26 rfl rfl (cells_at (cs := [.int .i64 2, .int .i64 0, .int .i64 3, .int .i64 1]) (CellsOf.cons (c := [.int .i64 2]) rfl (CellsOf.cons (c := [.int .i64 0]) rfl (CellsOf.cons (c := [.int .i64 3]) rfl (CellsOf.cons (c := [.int .i64 1]) rfl CellsOf.nil)))))
        clear hb26 hms0
        obtain ⟨x28, hx, h⟩ := bind_some h
        have hpk : MS w26 ([] ++ [[]]) := hms.pick [some 0] _ rfl
        have hsb0 : ∀ x ∈ fl ([] ++ [[]]), x ∈ fl [[]] := pick_sub [some 0] _ rfl
        have hsb : ∀ x ∈ fl ([] ++ [(fl [[]])]), x ∈ fl [[]] := fun x hx => hsb0 x (fl_unfold x hx)
        have hcall := gen_Ints_w a0_11 c0_11 x10.1 (some ⟨b26, 0, none⟩) 4 ([2, 0, 3, 1]) _ w26 (fl [[]]) (MS.fold (P := []) hpk) (hf11_1.sub hsb) (hs26.sub hsb) hx
        refine x_call 16 #[] #[] [.slice a0_11 (x10.1).length c0_11, .slice (some ⟨b26, 0, none⟩) ([2, 0, 3, 1]).length 4] _ rfl rfl rfl rfl hcall ?_
        rintro v w29 ⟨rfl, he29⟩
        clear hcall hx
        refine ⟨.inl rfl, ?_⟩
        have hst := Stp.ext (ls := [[]]) he29
        replace hf5_1 := hf5_1.step hst
        replace hf11_1 := hf11_1.step hst
        replace hs22 := hs22.step hst
        replace hs26 := hs26.step hst
        replace hms := hms.ev he29
        replace hev := hev.ext he29
        clear hpk hsb hsb0
        refine x_pure 2 [(39, .bool x28), (40, .bool x28)] _ _ _ (by kernel_rfl) ?_
        refine x_split 40 x28 rfl (fun hb => ?_) (fun hb => ?_)
        · replace h := ite_t hb h
          refine x_pure 4 [(41, .int .i64 x20.2), (42, .bool (x20.2 == 0)), (43, .bool (x20.2 == 0)), (44, .bool (x20.2 == 0))] _ _ _ (by kernel_rfl) ?_
          refine x_split 44 (x20.2 == 0) rfl (fun hb => ?_) (fun hb => ?_)
          · replace h := ite_t hb h
            refine x_pure 3 [(45, .bool x20.1), (46, .bool x20.1), (0, .bool x20.1)] _ _ _ (by kernel_rfl) ?_
            refine x_end rfl (k_then ?_)
            refine c_norm [(0, .bool x20.1)] ⟨rfl, trivial⟩ (fun J => ?_)
            refine c_ret ?_
            refine r_ret (r_vals [.bool x20.1] ⟨rfl, trivial⟩ ?_)
            have hx := some_inj h
            subst hx
            exact ⟨rfl, hev⟩
          replace h := ite_f hb h
          refine x_pure 3 [(45, undef), (46, .bool false), (0, .bool false)] _ _ _ (by kernel_rfl) ?_
          refine x_end rfl (k_then ?_)
          refine c_norm [(0, .bool false)] ⟨rfl, trivial⟩ (fun J => ?_)
          refine c_ret ?_
          refine r_ret (r_vals [.bool false] ⟨rfl, trivial⟩ ?_)
          have hx := some_inj h
          subst hx
          exact ⟨rfl, hev⟩
        replace h := ite_f hb h
        refine x_pure 7 [(41, undef), (42, undef), (43, .bool false), (44, .bool false), (45, undef), (46, .bool false), (0, .bool false)] _ _ _ (by kernel_rfl) ?_
        refine x_end rfl (k_then ?_)
        refine c_norm [(0, .bool false)] ⟨rfl, trivial⟩ (fun J => ?_)
        refine c_ret ?_
        refine r_ret (r_vals [.bool false] ⟨rfl, trivial⟩ ?_)
        have hx := some_inj h
        subst hx
        exact ⟨rfl, hev⟩
      replace h := ite_f hb h
      refine x_pure 12 [(36, undef), (37, undef), (38, undef), (39, .bool false), (40, .bool false), (41, undef), (42, undef), (43, .bool false), (44, .bool false), (45, undef), (46, .bool false), (0, .bool false)] _ _ _ (by kernel_rfl) ?_
      refine x_end rfl (k_then ?_)
      refine c_norm [(0, .bool false)] ⟨rfl, trivial⟩ (fun J => ?_)
      refine c_ret ?_
      refine r_ret (r_vals [.bool false] ⟨rfl, trivial⟩ ?_)
      have hx := some_inj h
      subst hx
      exact ⟨rfl, hev⟩
    replace h := ite_f hb h
    refine x_pure 16 [(32, undef), (33, undef), (34, .bool false), (35, .bool false), (36, undef), (37, undef), (38, undef), (39, .bool false), (40, .bool false), (41, undef), (42, undef), (43, .bool false), (44, .bool false), (45, undef), (46, .bool false), (0, .bool false)] _ _ _ (by kernel_rfl) ?_
    refine x_end rfl (k_then ?_)
    refine c_norm [(0, .bool false)] ⟨rfl, trivial⟩ (fun J => ?_)
    refine c_ret ?_
    refine r_ret (r_vals [.bool false] ⟨rfl, trivial⟩ ?_)
    have hx := some_inj h
    subst hx
    exact ⟨rfl, hev⟩
  replace h := ite_f hb h
  refine x_pure 21 [(27, undef), (28, undef), (29, undef), (30, .bool false), (31, .bool false), (32, undef), (33, undef), (34, .bool false), (35, .bool false), (36, undef), (37, undef), (38, undef), (39, .bool false), (40, .bool false), (41, undef), (42, undef), (43, .bool false), (44, .bool false), (45, undef), (46, .bool false), (0, .bool false)] _ _ _ (by kernel_rfl) ?_
  refine x_end rfl (k_then ?_)
  refine c_norm [(0, .bool false)] ⟨rfl, trivial⟩ (fun J => ?_)
  refine c_ret ?_
  refine r_ret (r_vals [.bool false] ⟨rfl, trivial⟩ ?_)
  have hx := some_inj h
  subst hx
  exact ⟨rfl, hev⟩
end Go.Proofs.Ytacimonplnlmgaa
