/- Walks, printed by program: each function returns what the partial function of the same name returns. Conditions: those of each theorem. -/
import Derived.Test.YtgdaanhiagoonaaGT
import Derived.Test.YtgdaanhiagoonaaGgen
import Derived.Test.YtgdaanhiagoonaaGlaw13four
import Derived.Test.YtgdaanhiagoonaaGleastcode
set_option linter.unusedVariables false
set_option linter.unusedSimpArgs false
set_option maxRecDepth 4000
namespace Go.Proofs.Ytgdaanhiagoonaa
open Go Go.V Go.Proofs
def law13_sane : Option Bool :=
((law13_four 12).bind fun x1 =>
((leastcode_Least x1.1 x1.2).bind fun x4 =>
((law13_four 0).bind fun x10 =>
((leastcode_Least x10.1 x10.2).bind fun x13 =>
((leastcode_Least ([(0, 0, 3, 80)] : List (Int × Int × Int × Int)) 0).bind fun x21 =>
((law13_four 12).bind fun x27 =>
((leastcode_Bound x27.1 x27.2 ([2, 0, 3, 1])).bind fun x32 =>
((law13_four 12).bind fun x34 =>
((leastcode_Witness x34.1 x34.2).bind fun x37 =>
(if (x4.2 == 0) = true then
(if (x4.1.1 == 2) = true then
((gen_Ints x4.1.2 ([1, 2, 0, 1])).bind fun x42 =>
(if x42 = true then
(if (x13.2 == 15) = true then
(if (x21.2 == 0) = true then
(if (x21.1.1 == 3) = true then
((gen_Ints x21.1.2 ([7])).bind fun x46 =>
(if x46 = true then
(if (x32.2 == 0) = true then
(if (x32.1 == 2) = true then
(if (x37.2 == 0) = true then
((gen_Ints x37.1 ([2, 0, 3, 1])).bind fun x50 =>
some x50)
else
some false)
else
some false)
else
some false)
else
some false))
else
some false)
else
some false)
else
some false)
else
some false))
else
some false)
else
some false))))))))))

theorem law13_sane_w (r : Bool) (w : World) (h : law13_sane = some r) : CallVC Try.prog 13 [] w fun v w' => v = .bool r ∧ Ev [] w w' := by
  refine calls_vc hmx Try.func13 (by kernel_rfl) rfl (rs := [.tmp 0]) rfl (by kernel_rfl) (args := []) rfl ?_
  have hev : Ev [] w w := Ev.refl _ _
  have hms : MS w [[]] := ⟨List.pairwise_singleton _ _, fun l hl b hb => by simp only [List.mem_singleton] at hl; subst hl; cases hb⟩
  have hfr : FR w.heap.size [] := FR.nil _
  refine c_seq (c_plain ?_)
  refine x_pure 1 [(0, .bool false)] _ _ _ (by kernel_rfl) ?_
  refine x_end rfl (k_then ?_)
  refine c_seq (c_plain ?_)
  obtain ⟨x1, hx, h⟩ := bind_some h
  have hpk : MS w ([] ++ [[]]) := hms.pick [some 0] _ rfl
  have hsb0 : ∀ x ∈ fl ([] ++ [[]]), x ∈ fl [[]] := pick_sub [some 0] _ rfl
  have hsb : ∀ x ∈ fl ([] ++ [(fl [[]])]), x ∈ fl [[]] := fun x hx => hsb0 x (fl_unfold x hx)
  have hcall := law13_four_w 12 _ w (fl [[]]) (MS.fold (P := []) hpk)  hx
  refine x_call 19 #[] #[] [.int .i64 12] _ rfl rfl rfl rfl hcall ?_
  rintro v w2 ⟨a0_2, c0_2, rfl, he2, hf2_1⟩
  clear hcall hx
  refine ⟨.inl rfl, ?_⟩
  replace hms := hms.ev he2
  replace hev := hev.ext he2
  have hsp : ∀ x ∈ fl [[]], x ∈ fl ([] ++ [(fl [[]])]) := fun x hx => fl_fold (P := []) x (pick_sup [some 0] [[]] rfl rfl x hx)
  replace hf2_1 := hf2_1.sub hsp
  clear hpk hsb hsb0
  obtain ⟨x4, hx, h⟩ := bind_some h
  have hpk : MS w2 ([] ++ [[]]) := hms.pick [some 0] _ rfl
  have hsb0 : ∀ x ∈ fl ([] ++ [[]]), x ∈ fl [[]] := pick_sub [some 0] _ rfl
  have hsb : ∀ x ∈ fl ([] ++ [(fl [[]])]), x ∈ fl [[]] := fun x hx => hsb0 x (fl_unfold x hx)
  have hcall := leastcode_Least_w a0_2 c0_2 x1.1 x1.2 _ w2 (fl [[]]) (MS.fold (P := []) hpk) (hf2_1.sub hsb) hx
  refine x_call 12 #[] #[] [.agg #[.slice a0_2 (x1.1).length c0_2, .int .i64 x1.2]] _ rfl rfl rfl rfl hcall ?_
  rintro v w5 ⟨a0_5, c0_5, rfl, he5, hmn5, hfn5, hf5_1⟩
  clear hcall hx
  refine ⟨.inl rfl, ?_⟩
  have hpk2 : MS w2 ([] ++ [[]]) := hms.pick [some 0] _ rfl
  have hsb2 : ∀ x ∈ fl ([] ++ [[]]), x ∈ fl [[]] := pick_sub [some 0] _ rfl
  have hst0 := Stp.call (LS := [[]]) (res := [blk a0_5]) (par := []) (R := [[]]) he5 (fun b hb => hsb2 b (fl_left' (P := []) b hb)) hfn5 (NP.init _ _) (fun x hx => hsb2 x (fl_right' (P := []) x hx))
  have hsn : ∀ x ∈ fl [blk a0_5, []], x ∈ fl ([blk a0_5] ++ ([] ++ [[]])) := pick_sub [some 0, some 1] _ rfl
  have hst := hst0.res hsn
  replace hf2_1 := hf2_1.step hst
  replace hms : MS w5 [blk a0_5, []] := (MS.call (P := []) (R := [[]]) (res := [blk a0_5]) (par := []) hpk2 he5 hmn5 hfn5 (NP.init _ _)).pick [some 0, some 1] _ rfl
  have hfr2 : FR w.heap.size [blk a0_5] := (FR.cons (fun b hb => Nat.le_trans hev.size (hfn5.at 0 rfl b hb)) (FR.nil _))
  replace hev := hev.ext he5
  replace hfr := hfr2
  clear hfr2
  replace hf5_1 := OwnS.plain (M' := fl [blk a0_5, []]) (plain_int _) hf5_1
  clear hpk hsb hsb0 hpk2 hsb2 hst0 hsn hst
  have hpk : MS w5 [[]] := hms.pick [some 1] _ rfl
  have hsu : ∀ x ∈ fl [[]], x ∈ fl [blk a0_5, []] := pick_sub [some 1] _ rfl
  replace hf2_1 := hf2_1.sub hsu
  replace hf5_1 := hf5_1.ro hsu (pick_out hms 0 rfl [some 1] [[]] rfl rfl)
  replace hms := hpk
  replace hfr : FR w.heap.size [] := hfr.pick [] _ rfl
  clear hpk hsu
  refine x_pure 3 [(11, .tuple #[.agg #[.int .i64 x4.1.1, .slice a0_5 (x4.1.2).length c0_5], .int .i64 x4.2]), (14, .agg #[.int .i64 x4.1.1, .slice a0_5 (x4.1.2).length c0_5]), (15, .int .i64 x4.2)] _ _ _ (by kernel_rfl) ?_
  refine x_alloc (z := .agg #[.int .i64 0, .slice none 0 0]) rfl rfl (by kernel_rfl) (fun b7 w7 hq7 hb7 he7 hz7 => ?_)
  replace hb7 : w7.heap[b7]? = some (.cells #[.int .i64 0, .slice none 0 0] 29 (0, 0)) := hb7
  refine ⟨.inl rfl, ?_⟩
  have hst := Stp.box (ls := [[]]) he7 hq7
  replace hf2_1 := hf2_1.step hst
  replace hf5_1 := hf5_1.step hst
  replace hms := hms.box he7 hq7 hb7
  replace hfr := hfr.box hev.size hq7
  replace hev := hev.ext he7
  obtain ⟨w9, hr9, hb9, he9⟩ := store_boxagg 0 [.int .i64 x4.1.1, .slice a0_5 (x4.1.2).length c0_5] #[.int .i64 x4.1.1, .slice a0_5 (x4.1.2).length c0_5] tagg29 hb7 rfl rfl rfl
  refine x_store w9 (xv := .pointer (some ⟨b7, 0, none⟩)) (yv := .agg #[.int .i64 x4.1.1, .slice a0_5 (x4.1.2).length c0_5]) rfl rfl rfl rfl hr9 ?_
  refine ⟨.inl rfl, ?_⟩
  have hst := Stp.ev' (ls := [[b7], []]) he9 (mem_flat 0 rfl)
  replace hf2_1 := hf2_1.step hst
  replace hf5_1 := hf5_1.step hst
  replace hms := hms.ev he9
  replace hev := hev.then he9 (fun b hb => .inr (hfr.at 0 rfl b hb))
  replace hb7 := hb9
  refine x_pure 1 [(2, .int .i64 x4.2)] _ _ _ (by kernel_rfl) ?_
  refine x_end rfl (k_then ?_)
  refine c_seq (c_plain ?_)
  obtain ⟨x10, hx, h⟩ := bind_some h
  have hpk : MS w9 ([] ++ [[b7], []]) := hms.pick [some 0, some 1] _ rfl
  have hsb0 : ∀ x ∈ fl ([] ++ [[b7], []]), x ∈ fl [[b7], []] := pick_sub [some 0, some 1] _ rfl
  have hsb : ∀ x ∈ fl ([] ++ [(fl [[b7], []])]), x ∈ fl [[b7], []] := fun x hx => hsb0 x (fl_unfold x hx)
  have hcall := law13_four_w 0 _ w9 (fl [[b7], []]) (MS.fold (P := []) hpk)  hx
  refine x_call 19 #[] #[] [.int .i64 0] _ rfl rfl rfl rfl hcall ?_
  rintro v w11 ⟨a0_11, c0_11, rfl, he11, hf11_1⟩
  clear hcall hx
  refine ⟨.inl rfl, ?_⟩
  have hst := Stp.ext (ls := [[b7], []]) he11
  replace hf5_1 := hf5_1.step hst
  replace hb7 := he11.box hb7 nn
  replace hms := hms.ev he11
  replace hev := hev.ext he11
  have hsp : ∀ x ∈ fl [[b7], []], x ∈ fl ([] ++ [(fl [[b7], []])]) := fun x hx => fl_fold (P := []) x (pick_sup [some 0, some 1] [[b7], []] rfl rfl x hx)
  replace hf11_1 := hf11_1.sub hsp
  clear hpk hsb hsb0
  obtain ⟨x13, hx, h⟩ := bind_some h
  have hpk : MS w11 ([] ++ [[b7], []]) := hms.pick [some 0, some 1] _ rfl
  have hsb0 : ∀ x ∈ fl ([] ++ [[b7], []]), x ∈ fl [[b7], []] := pick_sub [some 0, some 1] _ rfl
  have hsb : ∀ x ∈ fl ([] ++ [(fl [[b7], []])]), x ∈ fl [[b7], []] := fun x hx => hsb0 x (fl_unfold x hx)
  have hcall := leastcode_Least_w a0_11 c0_11 x10.1 x10.2 _ w11 (fl [[b7], []]) (MS.fold (P := []) hpk) (hf11_1.sub hsb) hx
  refine x_call 12 #[] #[] [.agg #[.slice a0_11 (x10.1).length c0_11, .int .i64 x10.2]] _ rfl rfl rfl rfl hcall ?_
  rintro v w14 ⟨a0_14, c0_14, rfl, he14, hmn14, hfn14, hf14_1⟩
  clear hcall hx
  refine ⟨.inl rfl, ?_⟩
  have hpk2 : MS w11 ([] ++ [[b7], []]) := hms.pick [some 0, some 1] _ rfl
  have hsb2 : ∀ x ∈ fl ([] ++ [[b7], []]), x ∈ fl [[b7], []] := pick_sub [some 0, some 1] _ rfl
  have hst0 := Stp.call (LS := [[b7], []]) (res := [blk a0_14]) (par := []) (R := [[b7], []]) he14 (fun b hb => hsb2 b (fl_left' (P := []) b hb)) hfn14 (NP.init _ _) (fun x hx => hsb2 x (fl_right' (P := []) x hx))
  have hsn : ∀ x ∈ fl [blk a0_14, [b7], []], x ∈ fl ([blk a0_14] ++ ([] ++ [[b7], []])) := pick_sub [some 0, some 1, some 2] _ rfl
  have hst := hst0.res hsn
  replace hf5_1 := hf5_1.step hst
  replace hb7 := he14.box hb7 ((MS.outs (P := []) hpk2 0 rfl) _ (List.mem_singleton.2 rfl))
  replace hf11_1 := hf11_1.step hst
  replace hms : MS w14 [blk a0_14, [b7], []] := (MS.call (P := []) (R := [[b7], []]) (res := [blk a0_14]) (par := []) hpk2 he14 hmn14 hfn14 (NP.init _ _)).pick [some 0, some 1, some 2] _ rfl
  have hfr2 : FR w.heap.size [blk a0_14, [b7]] := (FR.cons (fun b hb => Nat.le_trans hev.size (hfn14.at 0 rfl b hb)) (FR.cons (hfr.at 0 rfl) (FR.nil _)))
  replace hev := hev.ext he14
  replace hfr := hfr2
  clear hfr2
  replace hf14_1 := OwnS.plain (M' := fl [blk a0_14, [b7], []]) (plain_int _) hf14_1
  clear hpk hsb hsb0 hpk2 hsb2 hst0 hsn hst
  have hpk : MS w14 [[b7], []] := hms.pick [some 1, some 2] _ rfl
  have hsu : ∀ x ∈ fl [[b7], []], x ∈ fl [blk a0_14, [b7], []] := pick_sub [some 1, some 2] _ rfl
  replace hf5_1 := hf5_1.sub hsu
  replace hf11_1 := hf11_1.sub hsu
  replace hf14_1 := hf14_1.ro hsu (pick_out hms 0 rfl [some 1, some 2] [[b7], []] rfl rfl)
  replace hms := hpk
  replace hfr : FR w.heap.size [[b7]] := hfr.pick [some 1] _ rfl
  clear hpk hsu
  refine x_pure 3 [(16, .tuple #[.agg #[.int .i64 x13.1.1, .slice a0_14 (x13.1.2).length c0_14], .int .i64 x13.2]), (19, .agg #[.int .i64 x13.1.1, .slice a0_14 (x13.1.2).length c0_14]), (20, .int .i64 x13.2)] _ _ _ (by kernel_rfl) ?_
  refine x_alloc (z := .agg #[.int .i64 0, .slice none 0 0]) rfl rfl (by kernel_rfl) (fun b16 w16 hq16 hb16 he16 hz16 => ?_)
  replace hb16 : w16.heap[b16]? = some (.cells #[.int .i64 0, .slice none 0 0] 29 (0, 0)) := hb16
  refine ⟨.inl rfl, ?_⟩
  have hst := Stp.box (ls := [[b7], []]) he16 hq16
  replace hf5_1 := hf5_1.step hst
  replace hb7 := he16.box hb7 nn
  replace hf11_1 := hf11_1.step hst
  replace hf14_1 := hf14_1.step hst
  replace hms := hms.box he16 hq16 hb16
  replace hfr := hfr.box hev.size hq16
  replace hev := hev.ext he16
  obtain ⟨w18, hr18, hb18, he18⟩ := store_boxagg 0 [.int .i64 x13.1.1, .slice a0_14 (x13.1.2).length c0_14] #[.int .i64 x13.1.1, .slice a0_14 (x13.1.2).length c0_14] tagg29 hb16 rfl rfl rfl
  refine x_store w18 (xv := .pointer (some ⟨b16, 0, none⟩)) (yv := .agg #[.int .i64 x13.1.1, .slice a0_14 (x13.1.2).length c0_14]) rfl rfl rfl rfl hr18 ?_
  refine ⟨.inl rfl, ?_⟩
  have hst := Stp.ev' (ls := [[b16], [b7], []]) he18 (mem_flat 0 rfl)
  replace hf5_1 := hf5_1.step hst
  replace hb7 := he18.box hb7 (hms.apart 1 0 rfl rfl rfl _ (List.mem_singleton.2 rfl))
  replace hf11_1 := hf11_1.step hst
  replace hf14_1 := hf14_1.step hst
  replace hms := hms.ev he18
  replace hev := hev.then he18 (fun b hb => .inr (hfr.at 0 rfl b hb))
  replace hb16 := hb18
  refine x_pure 1 [(4, .int .i64 x13.2)] _ _ _ (by kernel_rfl) ?_
  refine x_end rfl (k_then ?_)
  refine c_norm [(1, .pointer (some ⟨b7, 0, none⟩)), (2, .int .i64 x4.2), (4, .int .i64 x13.2)] ⟨rfl, rfl, rfl, trivial⟩ (fun J => ?_)
  refine c_seq (c_plain ?_)
  refine x_build (vs := [(2, .int .i64 3), (3, .int .i64 80)]) (.agg #[.int .i64 0, .int .i64 0, .int .i64 3, .int .i64 80]) rfl rfl rfl (fun _ _ => by kernel_rfl) ?_
  refine x_buildSlice (vs := [(0, .agg #[.int .i64 0, .int .i64 0, .int .i64 3, .int .i64 80])]) #[.int .i64 0, .int .i64 0, .int .i64 3, .int .i64 80] 26 rfl rfl rfl (by kernel_rfl) (fun b19 w19 hq19 hb19 he19 hz19 => ?_)
  refine ⟨.inl rfl, ?_⟩
  have hms0 := hms
  have hst := Stp.ext (ls := [[b16], [b7], []]) he19
  replace hf5_1 := hf5_1.step hst
  replace hb7 := he19.box hb7 nn
  replace hf14_1 := hf14_1.step hst
  replace hb16 := he19.box hb16 nn
  replace hms := hms.ev he19
  replace hev := hev.ext he19
  have hs19 : SlR (eProd (eInt .i64) (eProd (eInt .i64) (eProd (eInt .i64) (eInt .i64)))) w19 (fl [[b16], [b7], []]) (some ⟨b19, 0, none⟩) 1 ([(0, 0, 3, 80)] : List (Int × Int × Int × Int)) := ro_of_box hms0 hq19 hb19 rfl rfl (cells_at (cs := [.int .i64 0, .int .i64 0, .int .i64 3, .int .i64 80]) (CellsOf.cons (c := [.int .i64 0, .int .i64 0, .int .i64 3, .int .i64 80]) ⟨[.int .i64 0], [.int .i64 0, .int .i64 3, .int .i64 80], rfl, rfl, ⟨[.int .i64 0], [.int .i64 3, .int .i64 80], rfl, rfl, ⟨[.int .i64 3], [.int .i64 80], rfl, rfl, rfl⟩⟩⟩ CellsOf.nil))
  clear hb19 hms0
  refine x_build (vs := [(0, .slice (some ⟨b19, 0, none⟩) (([(0, 0, 3, 80)] : List (Int × Int × Int × Int))).length 1)]) (.agg #[.slice (some ⟨b19, 0, none⟩) (([(0, 0, 3, 80)] : List (Int × Int × Int × Int))).length 1, .int .i64 0]) rfl rfl rfl (fun _ _ => by kernel_rfl) ?_
  obtain ⟨x21, hx, h⟩ := bind_some h
  have hpk : MS w19 ([] ++ [[b16], [b7], []]) := hms.pick [some 0, some 1, some 2] _ rfl
  have hsb0 : ∀ x ∈ fl ([] ++ [[b16], [b7], []]), x ∈ fl [[b16], [b7], []] := pick_sub [some 0, some 1, some 2] _ rfl
  have hsb : ∀ x ∈ fl ([] ++ [(fl [[b16], [b7], []])]), x ∈ fl [[b16], [b7], []] := fun x hx => hsb0 x (fl_unfold x hx)
  have hcall := leastcode_Least_w (some ⟨b19, 0, none⟩) 1 ([(0, 0, 3, 80)] : List (Int × Int × Int × Int)) 0 _ w19 (fl [[b16], [b7], []]) (MS.fold (P := []) hpk) (hs19.sub hsb) hx
  refine x_call 12 #[] #[] [.agg #[.slice (some ⟨b19, 0, none⟩) (([(0, 0, 3, 80)] : List (Int × Int × Int × Int))).length 1, .int .i64 0]] _ rfl rfl rfl rfl hcall ?_
  rintro v w22 ⟨a0_22, c0_22, rfl, he22, hmn22, hfn22, hf22_1⟩
  clear hcall hx
  refine ⟨.inl rfl, ?_⟩
  have hpk2 : MS w19 ([] ++ [[b16], [b7], []]) := hms.pick [some 0, some 1, some 2] _ rfl
  have hsb2 : ∀ x ∈ fl ([] ++ [[b16], [b7], []]), x ∈ fl [[b16], [b7], []] := pick_sub [some 0, some 1, some 2] _ rfl
  have hst0 := Stp.call (LS := [[b16], [b7], []]) (res := [blk a0_22]) (par := []) (R := [[b16], [b7], []]) he22 (fun b hb => hsb2 b (fl_left' (P := []) b hb)) hfn22 (NP.init _ _) (fun x hx => hsb2 x (fl_right' (P := []) x hx))
  have hsn : ∀ x ∈ fl [blk a0_22, [b16], [b7], []], x ∈ fl ([blk a0_22] ++ ([] ++ [[b16], [b7], []])) := pick_sub [some 0, some 1, some 2, some 3] _ rfl
  have hst := hst0.res hsn
  replace hf5_1 := hf5_1.step hst
  replace hb7 := he22.box hb7 ((MS.outs (P := []) hpk2 1 rfl) _ (List.mem_singleton.2 rfl))
  replace hf14_1 := hf14_1.step hst
  replace hb16 := he22.box hb16 ((MS.outs (P := []) hpk2 0 rfl) _ (List.mem_singleton.2 rfl))
  replace hs19 := hs19.step hst
  replace hms : MS w22 [blk a0_22, [b16], [b7], []] := (MS.call (P := []) (R := [[b16], [b7], []]) (res := [blk a0_22]) (par := []) hpk2 he22 hmn22 hfn22 (NP.init _ _)).pick [some 0, some 1, some 2, some 3] _ rfl
  have hfr2 : FR w.heap.size [blk a0_22, [b16], [b7]] := (FR.cons (fun b hb => Nat.le_trans hev.size (hfn22.at 0 rfl b hb)) (FR.cons (hfr.at 0 rfl) (FR.cons (hfr.at 1 rfl) (FR.nil _))))
  replace hev := hev.ext he22
  replace hfr := hfr2
  clear hfr2
  replace hf22_1 := OwnS.plain (M' := fl [blk a0_22, [b16], [b7], []]) (plain_int _) hf22_1
  clear hpk hsb hsb0 hpk2 hsb2 hst0 hsn hst
  have hpk : MS w22 [[b16], [b7], []] := hms.pick [some 1, some 2, some 3] _ rfl
  have hsu : ∀ x ∈ fl [[b16], [b7], []], x ∈ fl [blk a0_22, [b16], [b7], []] := pick_sub [some 1, some 2, some 3] _ rfl
  replace hf5_1 := hf5_1.sub hsu
  replace hf14_1 := hf14_1.sub hsu
  replace hs19 := hs19.sub hsu
  replace hf22_1 := hf22_1.ro hsu (pick_out hms 0 rfl [some 1, some 2, some 3] [[b16], [b7], []] rfl rfl)
  replace hms := hpk
  replace hfr : FR w.heap.size [[b16], [b7]] := hfr.pick [some 1, some 2] _ rfl
  clear hpk hsu
  refine x_pure 3 [(21, .tuple #[.agg #[.int .i64 x21.1.1, .slice a0_22 (x21.1.2).length c0_22], .int .i64 x21.2]), (26, .agg #[.int .i64 x21.1.1, .slice a0_22 (x21.1.2).length c0_22]), (27, .int .i64 x21.2)] _ _ _ (by kernel_rfl) ?_
  refine x_alloc (z := .agg #[.int .i64 0, .slice none 0 0]) rfl rfl (by kernel_rfl) (fun b24 w24 hq24 hb24 he24 hz24 => ?_)
  replace hb24 : w24.heap[b24]? = some (.cells #[.int .i64 0, .slice none 0 0] 29 (0, 0)) := hb24
  refine ⟨.inl rfl, ?_⟩
  have hst := Stp.box (ls := [[b16], [b7], []]) he24 hq24
  replace hf5_1 := hf5_1.step hst
  replace hb7 := he24.box hb7 nn
  replace hf14_1 := hf14_1.step hst
  replace hb16 := he24.box hb16 nn
  replace hs19 := hs19.step hst
  replace hf22_1 := hf22_1.step hst
  replace hms := hms.box he24 hq24 hb24
  replace hfr := hfr.box hev.size hq24
  replace hev := hev.ext he24
  obtain ⟨w26, hr26, hb26, he26⟩ := store_boxagg 0 [.int .i64 x21.1.1, .slice a0_22 (x21.1.2).length c0_22] #[.int .i64 x21.1.1, .slice a0_22 (x21.1.2).length c0_22] tagg29 hb24 rfl rfl rfl
  refine x_store w26 (xv := .pointer (some ⟨b24, 0, none⟩)) (yv := .agg #[.int .i64 x21.1.1, .slice a0_22 (x21.1.2).length c0_22]) rfl rfl rfl rfl hr26 ?_
  refine ⟨.inl rfl, ?_⟩
  have hst := Stp.ev' (ls := [[b24], [b16], [b7], []]) he26 (mem_flat 0 rfl)
  replace hf5_1 := hf5_1.step hst
  replace hb7 := he26.box hb7 (hms.apart 2 0 rfl rfl rfl _ (List.mem_singleton.2 rfl))
  replace hf14_1 := hf14_1.step hst
  replace hb16 := he26.box hb16 (hms.apart 1 0 rfl rfl rfl _ (List.mem_singleton.2 rfl))
  replace hs19 := hs19.step hst
  replace hf22_1 := hf22_1.step hst
  replace hms := hms.ev he26
  replace hev := hev.then he26 (fun b hb => .inr (hfr.at 0 rfl b hb))
  replace hb24 := hb26
  refine x_pure 1 [(6, .int .i64 x21.2)] _ _ _ (by kernel_rfl) ?_
  refine x_end rfl (k_then ?_)
  refine c_seq (c_plain ?_)
  obtain ⟨x27, hx, h⟩ := bind_some h
  have hpk : MS w26 ([] ++ [[b24], [b16], [b7], []]) := hms.pick [some 0, some 1, some 2, some 3] _ rfl
  have hsb0 : ∀ x ∈ fl ([] ++ [[b24], [b16], [b7], []]), x ∈ fl [[b24], [b16], [b7], []] := pick_sub [some 0, some 1, some 2, some 3] _ rfl
  have hsb : ∀ x ∈ fl ([] ++ [(fl [[b24], [b16], [b7], []])]), x ∈ fl [[b24], [b16], [b7], []] := fun x hx => hsb0 x (fl_unfold x hx)
  have hcall := law13_four_w 12 _ w26 (fl [[b24], [b16], [b7], []]) (MS.fold (P := []) hpk)  hx
  refine x_call 19 #[] #[] [.int .i64 12] _ rfl rfl rfl rfl hcall ?_
  rintro v w28 ⟨a0_28, c0_28, rfl, he28, hf28_1⟩
  clear hcall hx
  refine ⟨.inl rfl, ?_⟩
  have hst := Stp.ext (ls := [[b24], [b16], [b7], []]) he28
  replace hf5_1 := hf5_1.step hst
  replace hb7 := he28.box hb7 nn
  replace hf14_1 := hf14_1.step hst
  replace hb16 := he28.box hb16 nn
  replace hf22_1 := hf22_1.step hst
  replace hb24 := he28.box hb24 nn
  replace hms := hms.ev he28
  replace hev := hev.ext he28
  have hsp : ∀ x ∈ fl [[b24], [b16], [b7], []], x ∈ fl ([] ++ [(fl [[b24], [b16], [b7], []])]) := fun x hx => fl_fold (P := []) x (pick_sup [some 0, some 1, some 2, some 3] [[b24], [b16], [b7], []] rfl rfl x hx)
  replace hf28_1 := hf28_1.sub hsp
  clear hpk hsb hsb0
  refine x_buildSlice (vs := [(0, .int .i64 2), (1, .int .i64 0), (2, .int .i64 3), (3, .int .i64 1)]) #[.int .i64 2, .int .i64 0, .int .i64 3, .int .i64 1] 3 rfl rfl rfl (by kernel_rfl) (fun b30 w30 hq30 hb30 he30 hz30 => ?_)
  refine ⟨.inl rfl, ?_⟩
  have hms0 := hms
  have hst := Stp.ext (ls := [[b24], [b16], [b7], []]) he30
  replace hf5_1 := hf5_1.step hst
  replace hb7 := he30.box hb7 nn
  replace hf14_1 := hf14_1.step hst
  replace hb16 := he30.box hb16 nn
  replace hf22_1 := hf22_1.step hst
  replace hb24 := he30.box hb24 nn
  replace hf28_1 := hf28_1.step hst
  replace hms := hms.ev he30
  replace hev := hev.ext he30
  have hs30 : SlR (eInt .i64) w30 (fl [[b24], [b16], [b7], []]) (some ⟨b30, 0, none⟩) 4 ([2, 0, 3, 1]) := ro_of_box hms0 hq30 hb30 rfl rfl (cells_at (cs := [.int .i64 2, .int .i64 0, .int .i64 3, .int .i64 1]) (CellsOf.cons (c := [.int .i64 2]) rfl (CellsOf.cons (c := [.int .i64 0]) rfl (CellsOf.cons (c := [.int .i64 3]) rfl (CellsOf.cons (c := [.int .i64 1]) rfl CellsOf.nil)))))
  clear hb30 hms0
  obtain ⟨x32, hx, h⟩ := bind_some h
  have hpk : MS w30 ([] ++ [[b24], [b16], [b7], []]) := hms.pick [some 0, some 1, some 2, some 3] _ rfl
  have hsb0 : ∀ x ∈ fl ([] ++ [[b24], [b16], [b7], []]), x ∈ fl [[b24], [b16], [b7], []] := pick_sub [some 0, some 1, some 2, some 3] _ rfl
  have hsb : ∀ x ∈ fl ([] ++ [(fl [[b24], [b16], [b7], []])]), x ∈ fl [[b24], [b16], [b7], []] := fun x hx => hsb0 x (fl_unfold x hx)
  have hcall := leastcode_Bound_w a0_28 c0_28 x27.1 x27.2 (some ⟨b30, 0, none⟩) 4 ([2, 0, 3, 1]) _ w30 (fl [[b24], [b16], [b7], []]) (MS.fold (P := []) hpk) (hf28_1.sub hsb) (hs30.sub hsb) hx
  refine x_call 31 #[] #[] [.agg #[.slice a0_28 (x27.1).length c0_28, .int .i64 x27.2], .slice (some ⟨b30, 0, none⟩) ([2, 0, 3, 1]).length 4] _ rfl rfl rfl rfl hcall ?_
  rintro v w33 ⟨rfl, he33⟩
  clear hcall hx
  refine ⟨.inl rfl, ?_⟩
  have hst := Stp.ext (ls := [[b24], [b16], [b7], []]) he33
  replace hf5_1 := hf5_1.step hst
  replace hb7 := he33.box hb7 nn
  replace hf14_1 := hf14_1.step hst
  replace hb16 := he33.box hb16 nn
  replace hf22_1 := hf22_1.step hst
  replace hb24 := he33.box hb24 nn
  replace hf28_1 := hf28_1.step hst
  replace hs30 := hs30.step hst
  replace hms := hms.ev he33
  replace hev := hev.ext he33
  clear hpk hsb hsb0
  refine x_pure 5 [(28, .tuple #[.int .i64 x32.1, .int .i64 x32.2]), (32, .int .i64 x32.1), (33, .int .i64 x32.2), (7, .int .i64 x32.1), (8, .int .i64 x32.2)] _ _ _ (by kernel_rfl) ?_
  refine x_end rfl (k_then ?_)
  refine c_norm [(1, .pointer (some ⟨b7, 0, none⟩)), (2, .int .i64 x4.2), (4, .int .i64 x13.2), (5, .pointer (some ⟨b24, 0, none⟩)), (6, .int .i64 x21.2), (7, .int .i64 x32.1), (8, .int .i64 x32.2)] ⟨rfl, rfl, rfl, rfl, rfl, rfl, rfl, trivial⟩ (fun J => ?_)
  refine c_seq (c_plain ?_)
  obtain ⟨x34, hx, h⟩ := bind_some h
  have hpk : MS w33 ([] ++ [[b24], [b16], [b7], []]) := hms.pick [some 0, some 1, some 2, some 3] _ rfl
  have hsb0 : ∀ x ∈ fl ([] ++ [[b24], [b16], [b7], []]), x ∈ fl [[b24], [b16], [b7], []] := pick_sub [some 0, some 1, some 2, some 3] _ rfl
  have hsb : ∀ x ∈ fl ([] ++ [(fl [[b24], [b16], [b7], []])]), x ∈ fl [[b24], [b16], [b7], []] := fun x hx => hsb0 x (fl_unfold x hx)
  have hcall := law13_four_w 12 _ w33 (fl [[b24], [b16], [b7], []]) (MS.fold (P := []) hpk)  hx
  refine x_call 19 #[] #[] [.int .i64 12] _ rfl rfl rfl rfl hcall ?_
  rintro v w35 ⟨a0_35, c0_35, rfl, he35, hf35_1⟩
  clear hcall hx
  refine ⟨.inl rfl, ?_⟩
  have hst := Stp.ext (ls := [[b24], [b16], [b7], []]) he35
  replace hf5_1 := hf5_1.step hst
  replace hb7 := he35.box hb7 nn
  replace hf14_1 := hf14_1.step hst
  replace hb16 := he35.box hb16 nn
  replace hf22_1 := hf22_1.step hst
  replace hb24 := he35.box hb24 nn
  replace hms := hms.ev he35
  replace hev := hev.ext he35
  have hsp : ∀ x ∈ fl [[b24], [b16], [b7], []], x ∈ fl ([] ++ [(fl [[b24], [b16], [b7], []])]) := fun x hx => fl_fold (P := []) x (pick_sup [some 0, some 1, some 2, some 3] [[b24], [b16], [b7], []] rfl rfl x hx)
  replace hf35_1 := hf35_1.sub hsp
  clear hpk hsb hsb0
  obtain ⟨x37, hx, h⟩ := bind_some h
  have hpk : MS w35 ([] ++ [[b24], [b16], [b7], []]) := hms.pick [some 0, some 1, some 2, some 3] _ rfl
  have hsb0 : ∀ x ∈ fl ([] ++ [[b24], [b16], [b7], []]), x ∈ fl [[b24], [b16], [b7], []] := pick_sub [some 0, some 1, some 2, some 3] _ rfl
  have hsb : ∀ x ∈ fl ([] ++ [(fl [[b24], [b16], [b7], []])]), x ∈ fl [[b24], [b16], [b7], []] := fun x hx => hsb0 x (fl_unfold x hx)
  have hcall := leastcode_Witness_w a0_35 c0_35 x34.1 x34.2 _ w35 (fl [[b24], [b16], [b7], []]) (MS.fold (P := []) hpk) (hf35_1.sub hsb) hx
  refine x_call 20 #[] #[] [.agg #[.slice a0_35 (x34.1).length c0_35, .int .i64 x34.2]] _ rfl rfl rfl rfl hcall ?_
  rintro v w38 ⟨a0_38, c0_38, rfl, he38, hmn38, hfn38, hf38_1⟩
  clear hcall hx
  refine ⟨.inl rfl, ?_⟩
  have hpk2 : MS w35 ([] ++ [[b24], [b16], [b7], []]) := hms.pick [some 0, some 1, some 2, some 3] _ rfl
  have hsb2 : ∀ x ∈ fl ([] ++ [[b24], [b16], [b7], []]), x ∈ fl [[b24], [b16], [b7], []] := pick_sub [some 0, some 1, some 2, some 3] _ rfl
  have hst0 := Stp.call (LS := [[b24], [b16], [b7], []]) (res := [blk a0_38]) (par := []) (R := [[b24], [b16], [b7], []]) he38 (fun b hb => hsb2 b (fl_left' (P := []) b hb)) hfn38 (NP.init _ _) (fun x hx => hsb2 x (fl_right' (P := []) x hx))
  have hsn : ∀ x ∈ fl [blk a0_38, [b24], [b16], [b7], []], x ∈ fl ([blk a0_38] ++ ([] ++ [[b24], [b16], [b7], []])) := pick_sub [some 0, some 1, some 2, some 3, some 4] _ rfl
  have hst := hst0.res hsn
  replace hf5_1 := hf5_1.step hst
  replace hb7 := he38.box hb7 ((MS.outs (P := []) hpk2 2 rfl) _ (List.mem_singleton.2 rfl))
  replace hf14_1 := hf14_1.step hst
  replace hb16 := he38.box hb16 ((MS.outs (P := []) hpk2 1 rfl) _ (List.mem_singleton.2 rfl))
  replace hf22_1 := hf22_1.step hst
  replace hb24 := he38.box hb24 ((MS.outs (P := []) hpk2 0 rfl) _ (List.mem_singleton.2 rfl))
  replace hf35_1 := hf35_1.step hst
  replace hms : MS w38 [blk a0_38, [b24], [b16], [b7], []] := (MS.call (P := []) (R := [[b24], [b16], [b7], []]) (res := [blk a0_38]) (par := []) hpk2 he38 hmn38 hfn38 (NP.init _ _)).pick [some 0, some 1, some 2, some 3, some 4] _ rfl
  have hfr2 : FR w.heap.size [blk a0_38, [b24], [b16], [b7]] := (FR.cons (fun b hb => Nat.le_trans hev.size (hfn38.at 0 rfl b hb)) (FR.cons (hfr.at 0 rfl) (FR.cons (hfr.at 1 rfl) (FR.cons (hfr.at 2 rfl) (FR.nil _)))))
  replace hev := hev.ext he38
  replace hfr := hfr2
  clear hfr2
  replace hf38_1 := OwnS.plain (M' := fl [blk a0_38, [b24], [b16], [b7], []]) (plain_int _) hf38_1
  clear hpk hsb hsb0 hpk2 hsb2 hst0 hsn hst
  have hpk : MS w38 [[b24], [b16], [b7], []] := hms.pick [some 1, some 2, some 3, some 4] _ rfl
  have hsu : ∀ x ∈ fl [[b24], [b16], [b7], []], x ∈ fl [blk a0_38, [b24], [b16], [b7], []] := pick_sub [some 1, some 2, some 3, some 4] _ rfl
  replace hf5_1 := hf5_1.sub hsu
  replace hf14_1 := hf14_1.sub hsu
  replace hf22_1 := hf22_1.sub hsu
  replace hf35_1 := hf35_1.sub hsu
  replace hf38_1 := hf38_1.ro hsu (pick_out hms 0 rfl [some 1, some 2, some 3, some 4] [[b24], [b16], [b7], []] rfl rfl)
  replace hms := hpk
  replace hfr : FR w.heap.size [[b24], [b16], [b7]] := hfr.pick [some 1, some 2, some 3] _ rfl
  clear hpk hsu
  refine x_pure 5 [(34, .tuple #[.slice a0_38 (x37.1).length c0_38, .int .i64 x37.2]), (37, .slice a0_38 (x37.1).length c0_38), (38, .int .i64 x37.2), (9, .slice a0_38 (x37.1).length c0_38), (10, .int .i64 x37.2)] _ _ _ (by kernel_rfl) ?_
  refine x_end rfl (k_then ?_)
  refine c_seq (c_plain ?_)
  refine x_pure 3 [(39, .int .i64 x4.2), (40, .bool (x4.2 == 0)), (41, .bool (x4.2 == 0))] _ _ _ (by kernel_rfl) ?_
  refine x_split 41 (x4.2 == 0) rfl (fun hb => ?_) (fun hb => ?_)
  · replace h := ite_t hb h
    refine x_fieldAddr (xv := .pointer (some ⟨b7, 0, none⟩)) (.pointer (some ⟨b7, 0, none⟩)) rfl rfl rfl (reads_field tfld29_0 _ _) ?_
    refine x_load (xv := .pointer (some ⟨b7, 0, none⟩)) (.int .i64 x4.1.1) rfl rfl rfl (reads_box tcell3 hb7 nn 0 _ rfl) ?_
    refine x_pure 3 [(44, .bool (x4.1.1 == 2)), (45, .bool (x4.1.1 == 2)), (46, .bool (x4.1.1 == 2))] _ _ _ (by kernel_rfl) ?_
    refine x_split 46 (x4.1.1 == 2) rfl (fun hb => ?_) (fun hb => ?_)
    · replace h := ite_t hb h
      refine x_fieldAddr (xv := .pointer (some ⟨b7, 0, none⟩)) (.pointer (some ⟨b7, 1, none⟩)) rfl rfl rfl (reads_field tfld29_1 _ _) ?_
      refine x_load (xv := .pointer (some ⟨b7, 1, none⟩)) (.slice a0_5 (x4.1.2).length c0_5) rfl rfl rfl (reads_box tcell27 hb7 nn 1 _ rfl) ?_
      refine x_buildSlice (vs := [(0, .int .i64 1), (1, .int .i64 2), (2, .int .i64 0), (3, .int .i64 1)]) #[.int .i64 1, .int .i64 2, .int .i64 0, .int .i64 1] 3 rfl rfl rfl (by kernel_rfl) (fun b40 w40 hq40 hb40 he40 hz40 => ?_)
      refine ⟨.inl rfl, ?_⟩
      have hms0 := hms
      have hst := Stp.ext (ls := [[b24], [b16], [b7], []]) he40
      replace hf5_1 := hf5_1.step hst
      replace hb7 := he40.box hb7 nn
      replace hf14_1 := hf14_1.step hst
      replace hb16 := he40.box hb16 nn
      replace hf22_1 := hf22_1.step hst
      replace hb24 := he40.box hb24 nn
      replace hf38_1 := hf38_1.step hst
      replace hms := hms.ev he40
      replace hev := hev.ext he40
      have hs40 : SlR (eInt .i64) w40 (fl [[b24], [b16], [b7], []]) (some ⟨b40, 0, none⟩) 4 ([1, 2, 0, 1]) := ro_of_box hms0 hq40 hb40 rfl rfl (cells_at (cs := [.int .i64 1, .int .i64 2, .int .i64 0, .int .i64 1]) (CellsOf.cons (c := [.int .i64 1]) rfl (CellsOf.cons (c := [.int .i64 2]) rfl (CellsOf.cons (c := [.int .i64 0]) rfl (CellsOf.cons (c := [.int .i64 1]) rfl CellsOf.nil)))))
      clear hb40 hms0
      obtain ⟨x42, hx, h⟩ := bind_some h
      have hpk : MS w40 ([] ++ [[b24], [b16], [b7], []]) := hms.pick [some 0, some 1, some 2, some 3] _ rfl
      have hsb0 : ∀ x ∈ fl ([] ++ [[b24], [b16], [b7], []]), x ∈ fl [[b24], [b16], [b7], []] := pick_sub [some 0, some 1, some 2, some 3] _ rfl
      have hsb : ∀ x ∈ fl ([] ++ [(fl [[b24], [b16], [b7], []])]), x ∈ fl [[b24], [b16], [b7], []] := fun x hx => hsb0 x (fl_unfold x hx)
      have hcall := gen_Ints_w a0_5 c0_5 x4.1.2 (some ⟨b40, 0, none⟩) 4 ([1, 2, 0, 1]) _ w40 (fl [[b24], [b16], [b7], []]) (MS.fold (P := []) hpk) (hf5_1.sub hsb) (hs40.sub hsb) hx
      refine x_call 40 #[] #[] [.slice a0_5 (x4.1.2).length c0_5, .slice (some ⟨b40, 0, none⟩) ([1, 2, 0, 1]).length 4] _ rfl rfl rfl rfl hcall ?_
      rintro v w43 ⟨rfl, he43⟩
      clear hcall hx
      refine ⟨.inl rfl, ?_⟩
      have hst := Stp.ext (ls := [[b24], [b16], [b7], []]) he43
      replace hf5_1 := hf5_1.step hst
      replace hb7 := he43.box hb7 nn
      replace hf14_1 := hf14_1.step hst
      replace hb16 := he43.box hb16 nn
      replace hf22_1 := hf22_1.step hst
      replace hb24 := he43.box hb24 nn
      replace hf38_1 := hf38_1.step hst
      replace hs40 := hs40.step hst
      replace hms := hms.ev he43
      replace hev := hev.ext he43
      clear hpk hsb hsb0
      refine x_pure 2 [(51, .bool x42), (52, .bool x42)] _ _ _ (by kernel_rfl) ?_
      refine x_split 52 x42 rfl (fun hb => ?_) (fun hb => ?_)
      · replace h := ite_t hb h
        refine x_pure 4 [(53, .int .i64 x13.2), (54, .bool (x13.2 == 15)), (55, .bool (x13.2 == 15)), (56, .bool (x13.2 == 15))] _ _ _ (by kernel_rfl) ?_
        refine x_split 56 (x13.2 == 15) rfl (fun hb => ?_) (fun hb => ?_)
        · replace h := ite_t hb h
          refine x_pure 4 [(57, .int .i64 x21.2), (58, .bool (x21.2 == 0)), (59, .bool (x21.2 == 0)), (60, .bool (x21.2 == 0))] _ _ _ (by kernel_rfl) ?_
          refine x_split 60 (x21.2 == 0) rfl (fun hb => ?_) (fun hb => ?_)
          · replace h := ite_t hb h
            refine x_fieldAddr (xv := .pointer (some ⟨b24, 0, none⟩)) (.pointer (some ⟨b24, 0, none⟩)) rfl rfl rfl (reads_field tfld29_0 _ _) ?_
            refine x_load (xv := .pointer (some ⟨b24, 0, none⟩)) (.int .i64 x21.1.1) rfl rfl rfl (reads_box tcell3 hb24 nn 0 _ rfl) ?_
            refine x_pure 3 [(63, .bool (x21.1.1 == 3)), (64, .bool (x21.1.1 == 3)), (65, .bool (x21.1.1 == 3))] _ _ _ (by kernel_rfl) ?_
            refine x_split 65 (x21.1.1 == 3) rfl (fun hb => ?_) (fun hb => ?_)
            · replace h := ite_t hb h
              refine x_fieldAddr (xv := .pointer (some ⟨b24, 0, none⟩)) (.pointer (some ⟨b24, 1, none⟩)) rfl rfl rfl (reads_field tfld29_1 _ _) ?_
              refine x_load (xv := .pointer (some ⟨b24, 1, none⟩)) (.slice a0_22 (x21.1.2).length c0_22) rfl rfl rfl (reads_box tcell27 hb24 nn 1 _ rfl) ?_
              refine x_buildSlice (vs := [(0, .int .i64 7)]) #[.int .i64 7] 3 rfl rfl rfl (by kernel_rfl) (fun b44 w44 hq44 hb44 he44 hz44 => ?_)
              refine ⟨.inl rfl, ?_⟩
              have hms0 := hms
              have hst := Stp.ext (ls := [[b24], [b16], [b7], []]) he44
              replace hf5_1 := hf5_1.step hst
              replace hb7 := he44.box hb7 nn
              replace hf14_1 := hf14_1.step hst
              replace hb16 := he44.box hb16 nn
              replace hf22_1 := hf22_1.step hst
              replace hb24 := he44.box hb24 nn
              replace hf38_1 := hf38_1.step hst
              replace hs40 := hs40.step hst
              replace hms := hms.ev he44
              replace hev := hev.ext he44
              have hs44 : SlR (eInt .i64) w44 (fl [[b24], [b16], [b7], []]) (some ⟨b44, 0, none⟩) 1 ([7]) := ro_of_box hms0 hq44 hb44 rfl rfl (cells_at (cs := [.int .i64 7]) (CellsOf.cons (c := [.int .i64 7]) rfl CellsOf.nil))
              clear hb44 hms0
              obtain ⟨x46, hx, h⟩ := bind_some h
              have hpk : MS w44 ([] ++ [[b24], [b16], [b7], []]) := hms.pick [some 0, some 1, some 2, some 3] _ rfl
              have hsb0 : ∀ x ∈ fl ([] ++ [[b24], [b16], [b7], []]), x ∈ fl [[b24], [b16], [b7], []] := pick_sub [some 0, some 1, some 2, some 3] _ rfl
              have hsb : ∀ x ∈ fl ([] ++ [(fl [[b24], [b16], [b7], []])]), x ∈ fl [[b24], [b16], [b7], []] := fun x hx => hsb0 x (fl_unfold x hx)
              have hcall := gen_Ints_w a0_22 c0_22 x21.1.2 (some ⟨b44, 0, none⟩) 1 ([7]) _ w44 (fl [[b24], [b16], [b7], []]) (MS.fold (P := []) hpk) (hf22_1.sub hsb) (hs44.sub hsb) hx
              refine x_call 40 #[] #[] [.slice a0_22 (x21.1.2).length c0_22, .slice (some ⟨b44, 0, none⟩) ([7]).length 1] _ rfl rfl rfl rfl hcall ?_
              rintro v w47 ⟨rfl, he47⟩
              clear hcall hx
              refine ⟨.inl rfl, ?_⟩
              have hst := Stp.ext (ls := [[b24], [b16], [b7], []]) he47
              replace hf5_1 := hf5_1.step hst
              replace hb7 := he47.box hb7 nn
              replace hf14_1 := hf14_1.step hst
              replace hb16 := he47.box hb16 nn
              replace hf22_1 := hf22_1.step hst
              replace hb24 := he47.box hb24 nn
              replace hf38_1 := hf38_1.step hst
              replace hs40 := hs40.step hst
              replace hs44 := hs44.step hst
              replace hms := hms.ev he47
              replace hev := hev.ext he47
              clear hpk hsb hsb0
              refine x_pure 2 [(70, .bool x46), (71, .bool x46)] _ _ _ (by kernel_rfl) ?_
              refine x_split 71 x46 rfl (fun hb => ?_) (fun hb => ?_)
              · replace h := ite_t hb h
                refine x_pure 4 [(72, .int .i64 x32.2), (73, .bool (x32.2 == 0)), (74, .bool (x32.2 == 0)), (75, .bool (x32.2 == 0))] _ _ _ (by kernel_rfl) ?_
                refine x_split 75 (x32.2 == 0) rfl (fun hb => ?_) (fun hb => ?_)
                · replace h := ite_t hb h
                  refine x_pure 4 [(76, .int .i64 x32.1), (77, .bool (x32.1 == 2)), (78, .bool (x32.1 == 2)), (79, .bool (x32.1 == 2))] _ _ _ (by kernel_rfl) ?_
                  refine x_split 79 (x32.1 == 2) rfl (fun hb => ?_) (fun hb => ?_)
                  · replace h := ite_t hb h
                    refine x_pure 4 [(80, .int .i64 x37.2), (81, .bool (x37.2 == 0)), (82, .bool (x37.2 == 0)), (83, .bool (x37.2 == 0))] _ _ _ (by kernel_rfl) ?_
                    refine x_split 83 (x37.2 == 0) rfl (fun hb => ?_) (fun hb => ?_)
                    · replace h := ite_t hb h
                      refine x_pure 1 [(84, .slice a0_38 (x37.1).length c0_38)] _ _ _ (by kernel_rfl) ?_
                      refine x_buildSlice (vs := [(0, .int .i64 2), (1, .int .i64 0), (2, .int .i64 3), (3, .int .i64 1)]) #[.int .i64 2, .int .i64 0, .int .i64 3, .int .i64 1] 3 rfl rfl rfl (by kernel_rfl) (fun b48 w48 hq48 hb48 he48 hz48 => ?_)
                      refine ⟨.inl rfl, ?_⟩
                      have hms0 := hms
                      have hst := Stp.ext (ls := [[b24], [b16], [b7], []]) he48
                      replace hf5_1 := hf5_1.step hst
                      replace hb7 := he48.box hb7 nn
                      replace hf14_1 := hf14_1.step hst
                      replace hb16 := he48.box hb16 nn
                      replace hf22_1 := hf22_1.step hst
                      replace hb24 := he48.box hb24 nn
                      replace hf38_1 := hf38_1.step hst
                      replace hs40 := hs40.step hst
                      replace hs44 := hs44.step hst
                      replace hms := hms.ev he48
                      replace hev := hev.ext he48
                      have hs48 : SlR (eInt .i64) w48 (fl [[b24], [b16], [b7], []]) (some ⟨b48, 0, none⟩) 4 ([2, 0, 3, 1]) := ro_of_box hms0 hq48 hb48 rfl rfl (cells_at (cs := [.int .i64 2, .int .i64 0, .int .i64 3, .int .i64 1]) (CellsOf.cons (c := [.int .i64 2]) rfl (CellsOf.cons (c := [.int .i64 0]) rfl (CellsOf.cons (c := [.int .i64 3]) rfl (CellsOf.cons (c := [.int .i64 1]) rfl CellsOf.nil)))))
                      clear hb48 hms0
                      obtain ⟨x50, hx, h⟩ := bind_some h
                      have hpk : MS w48 ([] ++ [[b24], [b16], [b7], []]) := hms.pick [some 0, some 1, some 2, some 3] _ rfl
                      have hsb0 : ∀ x ∈ fl ([] ++ [[b24], [b16], [b7], []]), x ∈ fl [[b24], [b16], [b7], []] := pick_sub [some 0, some 1, some 2, some 3] _ rfl
                      have hsb : ∀ x ∈ fl ([] ++ [(fl [[b24], [b16], [b7], []])]), x ∈ fl [[b24], [b16], [b7], []] := fun x hx => hsb0 x (fl_unfold x hx)
                      have hcall := gen_Ints_w a0_38 c0_38 x37.1 (some ⟨b48, 0, none⟩) 4 ([2, 0, 3, 1]) _ w48 (fl [[b24], [b16], [b7], []]) (MS.fold (P := []) hpk) (hf38_1.sub hsb) (hs48.sub hsb) hx
                      refine x_call 40 #[] #[] [.slice a0_38 (x37.1).length c0_38, .slice (some ⟨b48, 0, none⟩) ([2, 0, 3, 1]).length 4] _ rfl rfl rfl rfl hcall ?_
                      rintro v w51 ⟨rfl, he51⟩
                      clear hcall hx
                      refine ⟨.inl rfl, ?_⟩
                      have hst := Stp.ext (ls := [[b24], [b16], [b7], []]) he51
                      replace hf5_1 := hf5_1.step hst
                      replace hb7 := he51.box hb7 nn
                      replace hf14_1 := hf14_1.step hst
                      replace hb16 := he51.box hb16 nn
                      replace hf22_1 := hf22_1.step hst
                      replace hb24 := he51.box hb24 nn
                      replace hf38_1 := hf38_1.step hst
                      replace hs40 := hs40.step hst
                      replace hs44 := hs44.step hst
                      replace hs48 := hs48.step hst
                      replace hms := hms.ev he51
                      replace hev := hev.ext he51
                      clear hpk hsb hsb0
                      refine x_pure 2 [(87, .bool x50), (0, .bool x50)] _ _ _ (by kernel_rfl) ?_
                      refine x_end rfl (k_then ?_)
                      refine c_norm [(0, .bool x50)] ⟨rfl, trivial⟩ (fun J => ?_)
                      refine c_ret ?_
                      refine r_ret (r_vals [.bool x50] ⟨rfl, trivial⟩ ?_)
                      have hx := some_inj h
                      subst hx
                      exact ⟨rfl, hev⟩
                    replace h := ite_f hb h
                    refine x_pure 5 [(84, undef), (85, undef), (86, undef), (87, .bool false), (0, .bool false)] _ _ _ (by kernel_rfl) ?_
                    refine x_end rfl (k_then ?_)
                    refine c_norm [(0, .bool false)] ⟨rfl, trivial⟩ (fun J => ?_)
                    refine c_ret ?_
                    refine r_ret (r_vals [.bool false] ⟨rfl, trivial⟩ ?_)
                    have hx := some_inj h
                    subst hx
                    exact ⟨rfl, hev⟩
                  replace h := ite_f hb h
                  refine x_pure 9 [(80, undef), (81, undef), (82, .bool false), (83, .bool false), (84, undef), (85, undef), (86, undef), (87, .bool false), (0, .bool false)] _ _ _ (by kernel_rfl) ?_
                  refine x_end rfl (k_then ?_)
                  refine c_norm [(0, .bool false)] ⟨rfl, trivial⟩ (fun J => ?_)
                  refine c_ret ?_
                  refine r_ret (r_vals [.bool false] ⟨rfl, trivial⟩ ?_)
                  have hx := some_inj h
                  subst hx
                  exact ⟨rfl, hev⟩
                replace h := ite_f hb h
                refine x_pure 13 [(76, undef), (77, undef), (78, .bool false), (79, .bool false), (80, undef), (81, undef), (82, .bool false), (83, .bool false), (84, undef), (85, undef), (86, undef), (87, .bool false), (0, .bool false)] _ _ _ (by kernel_rfl) ?_
                refine x_end rfl (k_then ?_)
                refine c_norm [(0, .bool false)] ⟨rfl, trivial⟩ (fun J => ?_)
                refine c_ret ?_
                refine r_ret (r_vals [.bool false] ⟨rfl, trivial⟩ ?_)
                have hx := some_inj h
                subst hx
                exact ⟨rfl, hev⟩
              replace h := ite_f hb h
              refine x_pure 17 [(72, undef), (73, undef), (74, .bool false), (75, .bool false), (76, undef), (77, undef), (78, .bool false), (79, .bool false), (80, undef), (81, undef), (82, .bool false), (83, .bool false), (84, undef), (85, undef), (86, undef), (87, .bool false), (0, .bool false)] _ _ _ (by kernel_rfl) ?_
              refine x_end rfl (k_then ?_)
              refine c_norm [(0, .bool false)] ⟨rfl, trivial⟩ (fun J => ?_)
              refine c_ret ?_
              refine r_ret (r_vals [.bool false] ⟨rfl, trivial⟩ ?_)
              have hx := some_inj h
              subst hx
              exact ⟨rfl, hev⟩
            replace h := ite_f hb h
            refine x_pure 23 [(66, undef), (67, undef), (68, undef), (69, undef), (70, .bool false), (71, .bool false), (72, undef), (73, undef), (74, .bool false), (75, .bool false), (76, undef), (77, undef), (78, .bool false), (79, .bool false), (80, undef), (81, undef), (82, .bool false), (83, .bool false), (84, undef), (85, undef), (86, undef), (87, .bool false), (0, .bool false)] _ _ _ (by kernel_rfl) ?_
            refine x_end rfl (k_then ?_)
            refine c_norm [(0, .bool false)] ⟨rfl, trivial⟩ (fun J => ?_)
            refine c_ret ?_
            refine r_ret (r_vals [.bool false] ⟨rfl, trivial⟩ ?_)
            have hx := some_inj h
            subst hx
            exact ⟨rfl, hev⟩
          replace h := ite_f hb h
          refine x_pure 28 [(61, undef), (62, undef), (63, undef), (64, .bool false), (65, .bool false), (66, undef), (67, undef), (68, undef), (69, undef), (70, .bool false), (71, .bool false), (72, undef), (73, undef), (74, .bool false), (75, .bool false), (76, undef), (77, undef), (78, .bool false), (79, .bool false), (80, undef), (81, undef), (82, .bool false), (83, .bool false), (84, undef), (85, undef), (86, undef), (87, .bool false), (0, .bool false)] _ _ _ (by kernel_rfl) ?_
          refine x_end rfl (k_then ?_)
          refine c_norm [(0, .bool false)] ⟨rfl, trivial⟩ (fun J => ?_)
          refine c_ret ?_
          refine r_ret (r_vals [.bool false] ⟨rfl, trivial⟩ ?_)
          have hx := some_inj h
          subst hx
          exact ⟨rfl, hev⟩
        replace h := ite_f hb h
        refine x_pure 32 [(57, undef), (58, undef), (59, .bool false), (60, .bool false), (61, undef), (62, undef), (63, undef), (64, .bool false), (65, .bool false), (66, undef), (67, undef), (68, undef), (69, undef), (70, .bool false), (71, .bool false), (72, undef), (73, undef), (74, .bool false), (75, .bool false), (76, undef), (77, undef), (78, .bool false), (79, .bool false), (80, undef), (81, undef), (82, .bool false), (83, .bool false), (84, undef), (85, undef), (86, undef), (87, .bool false), (0, .bool false)] _ _ _ (by kernel_rfl) ?_
        refine x_end rfl (k_then ?_)
        refine c_norm [(0, .bool false)] ⟨rfl, trivial⟩ (fun J => ?_)
        refine c_ret ?_
        refine r_ret (r_vals [.bool false] ⟨rfl, trivial⟩ ?_)
        have hx := some_inj h
        subst hx
        exact ⟨rfl, hev⟩
      replace h := ite_f hb h
      refine x_pure 36 [(53, undef), (54, undef), (55, .bool false), (56, .bool false), (57, undef), (58, undef), (59, .bool false), (60, .bool false), (61, undef), (62, undef), (63, undef), (64, .bool false), (65, .bool false), (66, undef), (67, undef), (68, undef), (69, undef), (70, .bool false), (71, .bool false), (72, undef), (73, undef), (74, .bool false), (75, .bool false), (76, undef), (77, undef), (78, .bool false), (79, .bool false), (80, undef), (81, undef), (82, .bool false), (83, .bool false), (84, undef), (85, undef), (86, undef), (87, .bool false), (0, .bool false)] _ _ _ (by kernel_rfl) ?_
      refine x_end rfl (k_then ?_)
      refine c_norm [(0, .bool false)] ⟨rfl, trivial⟩ (fun J => ?_)
      refine c_ret ?_
      refine r_ret (r_vals [.bool false] ⟨rfl, trivial⟩ ?_)
      have hx := some_inj h
      subst hx
      exact ⟨rfl, hev⟩
    replace h := ite_f hb h
    refine x_pure 42 [(47, undef), (48, undef), (49, undef), (50, undef), (51, .bool false), (52, .bool false), (53, undef), (54, undef), (55, .bool false), (56, .bool false), (57, undef), (58, undef), (59, .bool false), (60, .bool false), (61, undef), (62, undef), (63, undef), (64, .bool false), (65, .bool false), (66, undef), (67, undef), (68, undef), (69, undef), (70, .bool false), (71, .bool false), (72, undef), (73, undef), (74, .bool false), (75, .bool false), (76, undef), (77, undef), (78, .bool false), (79, .bool false), (80, undef), (81, undef), (82, .bool false), (83, .bool false), (84, undef), (85, undef), (86, undef), (87, .bool false), (0, .bool false)] _ _ _ (by kernel_rfl) ?_
    refine x_end rfl (k_then ?_)
    refine c_norm [(0, .bool false)] ⟨rfl, trivial⟩ (fun J => ?_)
    refine c_ret ?_
    refine r_ret (r_vals [.bool false] ⟨rfl, trivial⟩ ?_)
    have hx := some_inj h
    subst hx
    exact ⟨rfl, hev⟩
  replace h := ite_f hb h
  refine x_pure 47 [(42, undef), (43, undef), (44, undef), (45, .bool false), (46, .bool false), (47, undef), (48, undef), (49, undef), (50, undef), (51, .bool false), (52, .bool false), (53, undef), (54, undef), (55, .bool false), (56, .bool false), (57, undef), (58, undef), (59, .bool false), (60, .bool false), (61, undef), (62, undef), (63, undef), (64, .bool false), (65, .bool false), (66, undef), (67, undef), (68, undef), (69, undef), (70, .bool false), (71, .bool false), (72, undef), (73, undef), (74, .bool false), (75, .bool false), (76, undef), (77, undef), (78, .bool false), (79, .bool false), (80, undef), (81, undef), (82, .bool false), (83, .bool false), (84, undef), (85, undef), (86, undef), (87, .bool false), (0, .bool false)] _ _ _ (by kernel_rfl) ?_
  refine x_end rfl (k_then ?_)
  refine c_norm [(0, .bool false)] ⟨rfl, trivial⟩ (fun J => ?_)
  refine c_ret ?_
  refine r_ret (r_vals [.bool false] ⟨rfl, trivial⟩ ?_)
  have hx := some_inj h
  subst hx
  exact ⟨rfl, hev⟩
end Go.Proofs.Ytgdaanhiagoonaa
