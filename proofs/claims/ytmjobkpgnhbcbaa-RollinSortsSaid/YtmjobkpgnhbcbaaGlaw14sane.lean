/- Walks, printed by program: each function returns what the partial function of the same name returns. Conditions: those of each theorem. -/
import Derived.Test.YtmjobkpgnhbcbaaGT
import Derived.Test.YtmjobkpgnhbcbaaGgen
import Derived.Test.YtmjobkpgnhbcbaaGrollin
set_option linter.unusedVariables false
set_option linter.unusedSimpArgs false
set_option maxRecDepth 4000
namespace Go.Proofs.Ytmjobkpgnhbcbaa
open Go Go.V Go.Proofs
def law14_sane : Option Bool :=
((rollin_Contents ([(0, 1, 0, 80), (0, 3, 0, 80), (0, 0, 0, 80), (0, 2, 0, 80)] : List (Int × Int × Int × Int)) 12 2 ([1, 2, 0, 1]) 0).bind fun x11 =>
((rollin_Run ([(0, 1, 0, 80), (0, 3, 0, 80), (0, 0, 0, 80), (0, 2, 0, 80)] : List (Int × Int × Int × Int)) 12 2 ([1, 2, 0, 1])).bind fun x15 =>
((rollin_Loads ([(0, 1, 0, 80), (0, 3, 0, 80), (0, 0, 0, 80), (0, 2, 0, 80)] : List (Int × Int × Int × Int)) 12 2 ([1, 2, 0, 1])).bind fun x21 =>
(if (x11.2.2 == 0) = true then
((gen_Lists x11.1 ([[0, 3], [1]] : List (List Int))).bind fun x30 =>
(if x30 = true then
((gen_Lists x11.2.1 ([[2]] : List (List Int))).bind fun x36 =>
(if x36 = true then
(if (x15.2 == 0) = true then
((gen_Lists x15.1.1 ([[2, 0, 3, 1]] : List (List Int))).bind fun x42 =>
(if x42 = true then
(if (x15.1.2 == 7) = true then
(if (x21.2 == 0) = true then
((gen_Ints x21.1 ([160, 80, 320])).bind fun x46 =>
some x46)
else
some false)
else
some false)
else
some false))
else
some false)
else
some false))
else
some false))
else
some false))))

theorem law14_sane_w (r : Bool) (w : World) (h : law14_sane = some r) : CallVC Try.prog 15 [] w fun v w' => v = .bool r ∧ Ev [] w w' := by
  refine calls_vc hmx Try.func15 (by kernel_rfl) rfl (rs := [.tmp 0]) rfl (by kernel_rfl) (args := []) rfl ?_
  have hev : Ev [] w w := Ev.refl _ _
  have hms : MS w [[]] := ⟨List.pairwise_singleton _ _, fun l hl b hb => by simp only [List.mem_singleton] at hl; subst hl; cases hb⟩
  have hfr : FR w.heap.size [] := FR.nil _
  refine c_seq (c_plain ?_)
  refine x_pure 1 [(0, .bool false)] _ _ _ (by kernel_rfl) ?_
  refine x_end rfl (k_then ?_)
  refine c_seq (c_plain ?_)
  refine x_build (vs := [(1, .int .i64 1), (3, .int .i64 80)]) (.agg #[.int .i64 0, .int .i64 1, .int .i64 0, .int .i64 80]) rfl rfl rfl (fun _ _ => by kernel_rfl) ?_
  refine x_build (vs := [(1, .int .i64 3), (3, .int .i64 80)]) (.agg #[.int .i64 0, .int .i64 3, .int .i64 0, .int .i64 80]) rfl rfl rfl (fun _ _ => by kernel_rfl) ?_
  refine x_build (vs := [(1, .int .i64 0), (3, .int .i64 80)]) (.agg #[.int .i64 0, .int .i64 0, .int .i64 0, .int .i64 80]) rfl rfl rfl (fun _ _ => by kernel_rfl) ?_
  refine x_build (vs := [(1, .int .i64 2), (3, .int .i64 80)]) (.agg #[.int .i64 0, .int .i64 2, .int .i64 0, .int .i64 80]) rfl rfl rfl (fun _ _ => by kernel_rfl) ?_
  refine x_buildSlice (vs := [(0, .agg #[.int .i64 0, .int .i64 1, .int .i64 0, .int .i64 80]), (1, .agg #[.int .i64 0, .int .i64 3, .int .i64 0, .int .i64 80]), (2, .agg #[.int .i64 0, .int .i64 0, .int .i64 0, .int .i64 80]), (3, .agg #[.int .i64 0, .int .i64 2, .int .i64 0, .int .i64 80])]) #[.int .i64 0, .int .i64 1, .int .i64 0, .int .i64 80, .int .i64 0, .int .i64 3, .int .i64 0, .int .i64 80, .int .i64 0, .int .i64 0, .int .i64 0, .int .i64 80, .int .i64 0, .int .i64 2, .int .i64 0, .int .i64 80] 39 rfl rfl rfl (by kernel_rfl) (fun b1 w1 hq1 hb1 he1 hz1 => ?_)
  refine ⟨.inl rfl, ?_⟩
  have hms0 := hms
  replace hms := hms.ev he1
  replace hev := hev.ext he1
  have hs1 : SlR (eProd (eInt .i64) (eProd (eInt .i64) (eProd (eInt .i64) (eInt .i64)))) w1 (fl [[]]) (some ⟨b1, 0, none⟩) 4 ([(0, 1, 0, 80), (0, 3, 0, 80), (0, 0, 0, 80), (0, 2, 0, 80)] : List (Int × Int × Int × Int)) := ro_of_box hms0 hq1 hb1 rfl rfl (cells_at (cs := [.int .i64 0, .int .i64 1, .int .i64 0, .int .i64 80, .int .i64 0, .int .i64 3, .int .i64 0, .int .i64 80, .int .i64 0, .int .i64 0, .int .i64 0, .int .i64 80, .int .i64 0, .int .i64 2, .int .i64 0, .int .i64 80]) (CellsOf.cons (c := [.int .i64 0, .int .i64 1, .int .i64 0, .int .i64 80]) ⟨[.int .i64 0], [.int .i64 1, .int .i64 0, .int .i64 80], rfl, rfl, ⟨[.int .i64 1], [.int .i64 0, .int .i64 80], rfl, rfl, ⟨[.int .i64 0], [.int .i64 80], rfl, rfl, rfl⟩⟩⟩ (CellsOf.cons (c := [.int .i64 0, .int .i64 3, .int .i64 0, .int .i64 80]) ⟨[.int .i64 0], [.int .i64 3, .int .i64 0, .int .i64 80], rfl, rfl, ⟨[.int .i64 3], [.int .i64 0, .int .i64 80], rfl, rfl, ⟨[.int .i64 0], [.int .i64 80], rfl, rfl, rfl⟩⟩⟩ (CellsOf.cons (c := [.int .i64 0, .int .i64 0, .int .i64 0, .int .i64 80]) ⟨[.int .i64 0], [.int .i64 0, .int .i64 0, .int .i64 80], rfl, rfl, ⟨[.int .i64 0], [.int .i64 0, .int .i64 80], rfl, rfl, ⟨[.int .i64 0], [.int .i64 80], rfl, rfl, rfl⟩⟩⟩ (CellsOf.cons (c := [.int .i64 0, .int .i64 2, .int .i64 0, .int .i64 80]) ⟨[.int .i64 0], [.int .i64 2, .int .i64 0, .int .i64 80], rfl, rfl, ⟨[.int .i64 2], [.int .i64 0, .int .i64 80], rfl, rfl, ⟨[.int .i64 0], [.int .i64 80], rfl, rfl, rfl⟩⟩⟩ CellsOf.nil)))))
  clear hb1 hms0
  refine x_build (vs := [(0, .slice (some ⟨b1, 0, none⟩) (([(0, 1, 0, 80), (0, 3, 0, 80), (0, 0, 0, 80), (0, 2, 0, 80)] : List (Int × Int × Int × Int))).length 4), (1, .int .i64 12)]) (.agg #[.slice (some ⟨b1, 0, none⟩) (([(0, 1, 0, 80), (0, 3, 0, 80), (0, 0, 0, 80), (0, 2, 0, 80)] : List (Int × Int × Int × Int))).length 4, .int .i64 12]) rfl rfl rfl (fun _ _ => by kernel_rfl) ?_
  refine x_alloc (z := .agg #[.slice none 0 0, .int .i64 0]) rfl rfl (by kernel_rfl) (fun b3 w3 hq3 hb3 he3 hz3 => ?_)
  replace hb3 : w3.heap[b3]? = some (.cells #[.slice none 0 0, .int .i64 0] 27 (0, 0)) := hb3
  refine ⟨.inl rfl, ?_⟩
  have hst := Stp.box (ls := [[]]) he3 hq3
  replace hs1 := hs1.step hst
  replace hms := hms.box he3 hq3 hb3
  replace hfr := hfr.box hev.size hq3
  replace hev := hev.ext he3
  obtain ⟨w5, hr5, hb5, he5⟩ := store_boxagg 0 [.slice (some ⟨b1, 0, none⟩) (([(0, 1, 0, 80), (0, 3, 0, 80), (0, 0, 0, 80), (0, 2, 0, 80)] : List (Int × Int × Int × Int))).length 4, .int .i64 12] #[.slice (some ⟨b1, 0, none⟩) (([(0, 1, 0, 80), (0, 3, 0, 80), (0, 0, 0, 80), (0, 2, 0, 80)] : List (Int × Int × Int × Int))).length 4, .int .i64 12] tagg27 hb3 rfl rfl rfl
  refine x_store w5 (xv := .pointer (some ⟨b3, 0, none⟩)) (yv := .agg #[.slice (some ⟨b1, 0, none⟩) (([(0, 1, 0, 80), (0, 3, 0, 80), (0, 0, 0, 80), (0, 2, 0, 80)] : List (Int × Int × Int × Int))).length 4, .int .i64 12]) rfl rfl rfl rfl hr5 ?_
  refine ⟨.inl rfl, ?_⟩
  have hst := Stp.ev' (ls := [[b3], []]) he5 (mem_flat 0 rfl)
  replace hs1 := hs1.step hst
  replace hms := hms.ev he5
  replace hev := hev.then he5 (fun b hb => .inr (hfr.at 0 rfl b hb))
  replace hb3 := hb5
  refine x_end rfl (k_then ?_)
  refine c_seq (c_plain ?_)
  refine x_buildSlice (vs := [(0, .int .i64 1), (1, .int .i64 2), (2, .int .i64 0), (3, .int .i64 1)]) #[.int .i64 1, .int .i64 2, .int .i64 0, .int .i64 1] 3 rfl rfl rfl (by kernel_rfl) (fun b6 w6 hq6 hb6 he6 hz6 => ?_)
  refine ⟨.inl rfl, ?_⟩
  have hms0 := hms
  have hst := Stp.ext (ls := [[b3], []]) he6
  replace hs1 := hs1.step hst
  replace hb3 := he6.box hb3 nn
  replace hms := hms.ev he6
  replace hev := hev.ext he6
  have hs6 : SlR (eInt .i64) w6 (fl [[b3], []]) (some ⟨b6, 0, none⟩) 4 ([1, 2, 0, 1]) := ro_of_box hms0 hq6 hb6 rfl rfl (cells_at (cs := [.int .i64 1, .int .i64 2, .int .i64 0, .int .i64 1]) (CellsOf.cons (c := [.int .i64 1]) rfl (CellsOf.cons (c := [.int .i64 2]) rfl (CellsOf.cons (c := [.int .i64 0]) rfl (CellsOf.cons (c := [.int .i64 1]) rfl CellsOf.nil)))))
  clear hb6 hms0
  refine x_build (vs := [(0, .int .i64 2), (1, .slice (some ⟨b6, 0, none⟩) ([1, 2, 0, 1]).length 4)]) (.agg #[.int .i64 2, .slice (some ⟨b6, 0, none⟩) ([1, 2, 0, 1]).length 4]) rfl rfl rfl (fun _ _ => by kernel_rfl) ?_
  refine x_alloc (z := .agg #[.int .i64 0, .slice none 0 0]) rfl rfl (by kernel_rfl) (fun b8 w8 hq8 hb8 he8 hz8 => ?_)
  replace hb8 : w8.heap[b8]? = some (.cells #[.int .i64 0, .slice none 0 0] 30 (0, 0)) := hb8
  refine ⟨.inl rfl, ?_⟩
  have hst := Stp.box (ls := [[b3], []]) he8 hq8
  replace hs1 := hs1.step hst
  replace hb3 := he8.box hb3 nn
  replace hs6 := hs6.step hst
  replace hms := hms.box he8 hq8 hb8
  replace hfr := hfr.box hev.size hq8
  replace hev := hev.ext he8
  obtain ⟨w10, hr10, hb10, he10⟩ := store_boxagg 0 [.int .i64 2, .slice (some ⟨b6, 0, none⟩) ([1, 2, 0, 1]).length 4] #[.int .i64 2, .slice (some ⟨b6, 0, none⟩) ([1, 2, 0, 1]).length 4] tagg30 hb8 rfl rfl rfl
  refine x_store w10 (xv := .pointer (some ⟨b8, 0, none⟩)) (yv := .agg #[.int .i64 2, .slice (some ⟨b6, 0, none⟩) ([1, 2, 0, 1]).length 4]) rfl rfl rfl rfl hr10 ?_
  refine ⟨.inl rfl, ?_⟩
  have hst := Stp.ev' (ls := [[b8], [b3], []]) he10 (mem_flat 0 rfl)
  replace hs1 := hs1.step hst
  replace hb3 := he10.box hb3 (hms.apart 1 0 rfl rfl rfl _ (List.mem_singleton.2 rfl))
  replace hs6 := hs6.step hst
  replace hms := hms.ev he10
  replace hev := hev.then he10 (fun b hb => .inr (hfr.at 0 rfl b hb))
  replace hb8 := hb10
  refine x_end rfl (k_then ?_)
  refine c_seq (c_plain ?_)
  refine x_load (xv := .pointer (some ⟨b3, 0, none⟩)) (.agg #[.slice (some ⟨b1, 0, none⟩) (([(0, 1, 0, 80), (0, 3, 0, 80), (0, 0, 0, 80), (0, 2, 0, 80)] : List (Int × Int × Int × Int))).length 4, .int .i64 12]) rfl rfl rfl (reads_boxagg 0 [.slice (some ⟨b1, 0, none⟩) (([(0, 1, 0, 80), (0, 3, 0, 80), (0, 0, 0, 80), (0, 2, 0, 80)] : List (Int × Int × Int × Int))).length 4, .int .i64 12] tagg27 hb3 nn rfl) ?_
  refine x_load (xv := .pointer (some ⟨b8, 0, none⟩)) (.agg #[.int .i64 2, .slice (some ⟨b6, 0, none⟩) ([1, 2, 0, 1]).length 4]) rfl rfl rfl (reads_boxagg 0 [.int .i64 2, .slice (some ⟨b6, 0, none⟩) ([1, 2, 0, 1]).length 4] tagg30 hb8 nn rfl) ?_
  obtain ⟨x11, hx, h⟩ := bind_some h
  have hpk : MS w10 ([] ++ [[b8], [b3], []]) := hms.pick [some 0, some 1, some 2] _ rfl
  have hsb0 : ∀ x ∈ fl ([] ++ [[b8], [b3], []]), x ∈ fl [[b8], [b3], []] := pick_sub [some 0, some 1, some 2] _ rfl
  have hsb : ∀ x ∈ fl ([] ++ [(fl [[b8], [b3], []])]), x ∈ fl [[b8], [b3], []] := fun x hx => hsb0 x (fl_unfold x hx)
  have hcall := rollin_Contents_w (some ⟨b1, 0, none⟩) 4 ([(0, 1, 0, 80), (0, 3, 0, 80), (0, 0, 0, 80), (0, 2, 0, 80)] : List (Int × Int × Int × Int)) 12 2 (some ⟨b6, 0, none⟩) 4 ([1, 2, 0, 1]) 0 _ w10 (fl [[b8], [b3], []]) (MS.fold (P := []) hpk) (hs1.sub hsb) (hs6.sub hsb) hx
  refine x_call 16 #[] #[] [.agg #[.slice (some ⟨b1, 0, none⟩) (([(0, 1, 0, 80), (0, 3, 0, 80), (0, 0, 0, 80), (0, 2, 0, 80)] : List (Int × Int × Int × Int))).length 4, .int .i64 12], .agg #[.int .i64 2, .slice (some ⟨b6, 0, none⟩) ([1, 2, 0, 1]).length 4], .int .i64 0] _ rfl rfl rfl rfl hcall ?_
  rintro v w12 ⟨a0_12, c0_12, B2_12, a3_12, c3_12, B5_12, rfl, he12, hmn12, hfn12, hf12_1, hf12_2⟩
  clear hcall hx
  refine ⟨.inl rfl, ?_⟩
  have hpk2 : MS w10 ([] ++ [[b8], [b3], []]) := hms.pick [some 0, some 1, some 2] _ rfl
  have hsb2 : ∀ x ∈ fl ([] ++ [[b8], [b3], []]), x ∈ fl [[b8], [b3], []] := pick_sub [some 0, some 1, some 2] _ rfl
  have hst0 := Stp.call (LS := [[b8], [b3], []]) (res := [B2_12, B5_12]) (par := []) (R := [[b8], [b3], []]) he12 (fun b hb => hsb2 b (fl_left' (P := []) b hb)) hfn12 (NP.init _ _) (fun x hx => hsb2 x (fl_right' (P := []) x hx))
  have hsn : ∀ x ∈ fl [B2_12, B5_12, [b8], [b3], []], x ∈ fl ([B2_12, B5_12] ++ ([] ++ [[b8], [b3], []])) := pick_sub [some 0, some 1, some 2, some 3, some 4] _ rfl
  have hst := hst0.res hsn
  replace hs1 := hs1.step hst
  replace hb3 := he12.box hb3 ((MS.outs (P := []) hpk2 1 rfl) _ (List.mem_singleton.2 rfl))
  replace hs6 := hs6.step hst
  replace hb8 := he12.box hb8 ((MS.outs (P := []) hpk2 0 rfl) _ (List.mem_singleton.2 rfl))
  replace hms : MS w12 [B2_12, B5_12, [b8], [b3], []] := (MS.call (P := []) (R := [[b8], [b3], []]) (res := [B2_12, B5_12]) (par := []) hpk2 he12 hmn12 hfn12 (NP.init _ _)).pick [some 0, some 1, some 2, some 3, some 4] _ rfl
  have hfr2 : FR w.heap.size [B2_12, B5_12, [b8], [b3]] := (FR.cons (fun b hb => Nat.le_trans hev.size (hfn12.at 0 rfl b hb)) (FR.cons (fun b hb => Nat.le_trans hev.size (hfn12.at 1 rfl b hb)) (FR.cons (hfr.at 0 rfl) (FR.cons (hfr.at 1 rfl) (FR.nil _)))))
  replace hev := hev.ext he12
  replace hfr := hfr2
  clear hfr2
  clear hpk hsb hsb0 hpk2 hsb2 hst0 hsn hst
  have hpk : MS w12 [B5_12, [b8], [b3], []] := hms.pick [some 1, some 2, some 3, some 4] _ rfl
  have hsu : ∀ x ∈ fl [B5_12, [b8], [b3], []], x ∈ fl [B2_12, B5_12, [b8], [b3], []] := pick_sub [some 1, some 2, some 3, some 4] _ rfl
  replace hs1 := hs1.sub hsu
  replace hs6 := hs6.sub hsu
  replace hf12_1 := hf12_1.ro (plain_int _) (pick_out hms 0 rfl [some 1, some 2, some 3, some 4] [B5_12, [b8], [b3], []] rfl rfl)
  replace hms := hpk
  replace hfr : FR w.heap.size [B5_12, [b8], [b3]] := hfr.pick [some 1, some 2, some 3] _ rfl
  clear hpk hsu
  have hpk : MS w12 [[b8], [b3], []] := hms.pick [some 1, some 2, some 3] _ rfl
  have hsu : ∀ x ∈ fl [[b8], [b3], []], x ∈ fl [B5_12, [b8], [b3], []] := pick_sub [some 1, some 2, some 3] _ rfl
  replace hs1 := hs1.sub hsu
  replace hs6 := hs6.sub hsu
  replace hf12_1 := hf12_1.sub hsu
  replace hf12_2 := hf12_2.ro (plain_int _) (pick_out hms 0 rfl [some 1, some 2, some 3] [[b8], [b3], []] rfl rfl)
  replace hms := hpk
  replace hfr : FR w.heap.size [[b8], [b3]] := hfr.pick [some 1, some 2] _ rfl
  clear hpk hsu
  refine x_pure 7 [(18, .tuple #[.slice a0_12 (x11.1).length c0_12, .slice a3_12 (x11.2.1).length c3_12, .int .i64 x11.2.2]), (22, .slice a0_12 (x11.1).length c0_12), (23, .slice a3_12 (x11.2.1).length c3_12), (24, .int .i64 x11.2.2), (3, .slice a0_12 (x11.1).length c0_12), (4, .slice a3_12 (x11.2.1).length c3_12), (5, .int .i64 x11.2.2)] _ _ _ (by kernel_rfl) ?_
  refine x_end rfl (k_then ?_)
  refine c_norm [(1, .pointer (some ⟨b3, 0, none⟩)), (2, .pointer (some ⟨b8, 0, none⟩)), (3, .slice a0_12 (x11.1).length c0_12), (4, .slice a3_12 (x11.2.1).length c3_12), (5, .int .i64 x11.2.2)] ⟨rfl, rfl, rfl, rfl, rfl, trivial⟩ (fun J => ?_)
  refine c_seq (c_plain ?_)
  refine x_load (xv := .pointer (some ⟨b3, 0, none⟩)) (.agg #[.slice (some ⟨b1, 0, none⟩) (([(0, 1, 0, 80), (0, 3, 0, 80), (0, 0, 0, 80), (0, 2, 0, 80)] : List (Int × Int × Int × Int))).length 4, .int .i64 12]) rfl rfl rfl (reads_boxagg 0 [.slice (some ⟨b1, 0, none⟩) (([(0, 1, 0, 80), (0, 3, 0, 80), (0, 0, 0, 80), (0, 2, 0, 80)] : List (Int × Int × Int × Int))).length 4, .int .i64 12] tagg27 hb3 nn rfl) ?_
  refine x_load (xv := .pointer (some ⟨b8, 0, none⟩)) (.agg #[.int .i64 2, .slice (some ⟨b6, 0, none⟩) ([1, 2, 0, 1]).length 4]) rfl rfl rfl (reads_boxagg 0 [.int .i64 2, .slice (some ⟨b6, 0, none⟩) ([1, 2, 0, 1]).length 4] tagg30 hb8 nn rfl) ?_
  obtain ⟨x15, hx, h⟩ := bind_some h
  have hpk : MS w12 ([] ++ [[b8], [b3], []]) := hms.pick [some 0, some 1, some 2] _ rfl
  have hsb0 : ∀ x ∈ fl ([] ++ [[b8], [b3], []]), x ∈ fl [[b8], [b3], []] := pick_sub [some 0, some 1, some 2] _ rfl
  have hsb : ∀ x ∈ fl ([] ++ [(fl [[b8], [b3], []])]), x ∈ fl [[b8], [b3], []] := fun x hx => hsb0 x (fl_unfold x hx)
  have hcall := rollin_Run_w (some ⟨b1, 0, none⟩) 4 ([(0, 1, 0, 80), (0, 3, 0, 80), (0, 0, 0, 80), (0, 2, 0, 80)] : List (Int × Int × Int × Int)) 12 2 (some ⟨b6, 0, none⟩) 4 ([1, 2, 0, 1]) _ w12 (fl [[b8], [b3], []]) (MS.fold (P := []) hpk) (hs1.sub hsb) (hs6.sub hsb) hx
  refine x_call 14 #[] #[] [.agg #[.slice (some ⟨b1, 0, none⟩) (([(0, 1, 0, 80), (0, 3, 0, 80), (0, 0, 0, 80), (0, 2, 0, 80)] : List (Int × Int × Int × Int))).length 4, .int .i64 12], .agg #[.int .i64 2, .slice (some ⟨b6, 0, none⟩) ([1, 2, 0, 1]).length 4]] _ rfl rfl rfl rfl hcall ?_
  rintro v w16 ⟨a0_16, c0_16, B2_16, rfl, he16, hmn16, hfn16, hf16_1⟩
  clear hcall hx
  refine ⟨.inl rfl, ?_⟩
  have hpk2 : MS w12 ([] ++ [[b8], [b3], []]) := hms.pick [some 0, some 1, some 2] _ rfl
  have hsb2 : ∀ x ∈ fl ([] ++ [[b8], [b3], []]), x ∈ fl [[b8], [b3], []] := pick_sub [some 0, some 1, some 2] _ rfl
  have hst0 := Stp.call (LS := [[b8], [b3], []]) (res := [B2_16]) (par := []) (R := [[b8], [b3], []]) he16 (fun b hb => hsb2 b (fl_left' (P := []) b hb)) hfn16 (NP.init _ _) (fun x hx => hsb2 x (fl_right' (P := []) x hx))
  have hsn : ∀ x ∈ fl [B2_16, [b8], [b3], []], x ∈ fl ([B2_16] ++ ([] ++ [[b8], [b3], []])) := pick_sub [some 0, some 1, some 2, some 3] _ rfl
  have hst := hst0.res hsn
  replace hs1 := hs1.step hst
  replace hb3 := he16.box hb3 ((MS.outs (P := []) hpk2 1 rfl) _ (List.mem_singleton.2 rfl))
  replace hs6 := hs6.step hst
  replace hb8 := he16.box hb8 ((MS.outs (P := []) hpk2 0 rfl) _ (List.mem_singleton.2 rfl))
  replace hf12_1 := hf12_1.step hst
  replace hf12_2 := hf12_2.step hst
  replace hms : MS w16 [B2_16, [b8], [b3], []] := (MS.call (P := []) (R := [[b8], [b3], []]) (res := [B2_16]) (par := []) hpk2 he16 hmn16 hfn16 (NP.init _ _)).pick [some 0, some 1, some 2, some 3] _ rfl
  have hfr2 : FR w.heap.size [B2_16, [b8], [b3]] := (FR.cons (fun b hb => Nat.le_trans hev.size (hfn16.at 0 rfl b hb)) (FR.cons (hfr.at 0 rfl) (FR.cons (hfr.at 1 rfl) (FR.nil _))))
  replace hev := hev.ext he16
  replace hfr := hfr2
  clear hfr2
  clear hpk hsb hsb0 hpk2 hsb2 hst0 hsn hst
  have hpk : MS w16 [[b8], [b3], []] := hms.pick [some 1, some 2, some 3] _ rfl
  have hsu : ∀ x ∈ fl [[b8], [b3], []], x ∈ fl [B2_16, [b8], [b3], []] := pick_sub [some 1, some 2, some 3] _ rfl
  replace hs1 := hs1.sub hsu
  replace hs6 := hs6.sub hsu
  replace hf12_1 := hf12_1.sub hsu
  replace hf12_2 := hf12_2.sub hsu
  replace hf16_1 := hf16_1.ro (plain_int _) (pick_out hms 0 rfl [some 1, some 2, some 3] [[b8], [b3], []] rfl rfl)
  replace hms := hpk
  replace hfr : FR w.heap.size [[b8], [b3]] := hfr.pick [some 1, some 2] _ rfl
  clear hpk hsu
  refine x_pure 3 [(25, .tuple #[.agg #[.slice a0_16 (x15.1.1).length c0_16, .int .i64 x15.1.2], .int .i64 x15.2]), (29, .agg #[.slice a0_16 (x15.1.1).length c0_16, .int .i64 x15.1.2]), (30, .int .i64 x15.2)] _ _ _ (by kernel_rfl) ?_
  refine x_alloc (z := .agg #[.slice none 0 0, .int .i64 0]) rfl rfl (by kernel_rfl) (fun b18 w18 hq18 hb18 he18 hz18 => ?_)
  replace hb18 : w18.heap[b18]? = some (.cells #[.slice none 0 0, .int .i64 0] 34 (0, 0)) := hb18
  refine ⟨.inl rfl, ?_⟩
  have hst := Stp.box (ls := [[b8], [b3], []]) he18 hq18
  replace hs1 := hs1.step hst
  replace hb3 := he18.box hb3 nn
  replace hs6 := hs6.step hst
  replace hb8 := he18.box hb8 nn
  replace hf12_1 := hf12_1.step hst
  replace hf12_2 := hf12_2.step hst
  replace hf16_1 := hf16_1.step hst
  replace hms := hms.box he18 hq18 hb18
  replace hfr := hfr.box hev.size hq18
  replace hev := hev.ext he18
  obtain ⟨w20, hr20, hb20, he20⟩ := store_boxagg 0 [.slice a0_16 (x15.1.1).length c0_16, .int .i64 x15.1.2] #[.slice a0_16 (x15.1.1).length c0_16, .int .i64 x15.1.2] tagg34 hb18 rfl rfl rfl
  refine x_store w20 (xv := .pointer (some ⟨b18, 0, none⟩)) (yv := .agg #[.slice a0_16 (x15.1.1).length c0_16, .int .i64 x15.1.2]) rfl rfl rfl rfl hr20 ?_
  refine ⟨.inl rfl, ?_⟩
  have hst := Stp.ev' (ls := [[b18], [b8], [b3], []]) he20 (mem_flat 0 rfl)
  replace hs1 := hs1.step hst
  replace hb3 := he20.box hb3 (hms.apart 2 0 rfl rfl rfl _ (List.mem_singleton.2 rfl))
  replace hs6 := hs6.step hst
  replace hb8 := he20.box hb8 (hms.apart 1 0 rfl rfl rfl _ (List.mem_singleton.2 rfl))
  replace hf12_1 := hf12_1.step hst
  replace hf12_2 := hf12_2.step hst
  replace hf16_1 := hf16_1.step hst
  replace hms := hms.ev he20
  replace hev := hev.then he20 (fun b hb => .inr (hfr.at 0 rfl b hb))
  replace hb18 := hb20
  refine x_pure 1 [(7, .int .i64 x15.2)] _ _ _ (by kernel_rfl) ?_
  refine x_end rfl (k_then ?_)
  refine c_seq (c_plain ?_)
  refine x_load (xv := .pointer (some ⟨b3, 0, none⟩)) (.agg #[.slice (some ⟨b1, 0, none⟩) (([(0, 1, 0, 80), (0, 3, 0, 80), (0, 0, 0, 80), (0, 2, 0, 80)] : List (Int × Int × Int × Int))).length 4, .int .i64 12]) rfl rfl rfl (reads_boxagg 0 [.slice (some ⟨b1, 0, none⟩) (([(0, 1, 0, 80), (0, 3, 0, 80), (0, 0, 0, 80), (0, 2, 0, 80)] : List (Int × Int × Int × Int))).length 4, .int .i64 12] tagg27 hb3 nn rfl) ?_
  refine x_load (xv := .pointer (some ⟨b8, 0, none⟩)) (.agg #[.int .i64 2, .slice (some ⟨b6, 0, none⟩) ([1, 2, 0, 1]).length 4]) rfl rfl rfl (reads_boxagg 0 [.int .i64 2, .slice (some ⟨b6, 0, none⟩) ([1, 2, 0, 1]).length 4] tagg30 hb8 nn rfl) ?_
  obtain ⟨x21, hx, h⟩ := bind_some h
  have hpk : MS w20 ([] ++ [[b18], [b8], [b3], []]) := hms.pick [some 0, some 1, some 2, some 3] _ rfl
  have hsb0 : ∀ x ∈ fl ([] ++ [[b18], [b8], [b3], []]), x ∈ fl [[b18], [b8], [b3], []] := pick_sub [some 0, some 1, some 2, some 3] _ rfl
  have hsb : ∀ x ∈ fl ([] ++ [(fl [[b18], [b8], [b3], []])]), x ∈ fl [[b18], [b8], [b3], []] := fun x hx => hsb0 x (fl_unfold x hx)
  have hcall := rollin_Loads_w (some ⟨b1, 0, none⟩) 4 ([(0, 1, 0, 80), (0, 3, 0, 80), (0, 0, 0, 80), (0, 2, 0, 80)] : List (Int × Int × Int × Int)) 12 2 (some ⟨b6, 0, none⟩) 4 ([1, 2, 0, 1]) _ w20 (fl [[b18], [b8], [b3], []]) (MS.fold (P := []) hpk) (hs1.sub hsb) (hs6.sub hsb) hx
  refine x_call 17 #[] #[] [.agg #[.slice (some ⟨b1, 0, none⟩) (([(0, 1, 0, 80), (0, 3, 0, 80), (0, 0, 0, 80), (0, 2, 0, 80)] : List (Int × Int × Int × Int))).length 4, .int .i64 12], .agg #[.int .i64 2, .slice (some ⟨b6, 0, none⟩) ([1, 2, 0, 1]).length 4]] _ rfl rfl rfl rfl hcall ?_
  rintro v w22 ⟨a0_22, c0_22, rfl, he22, hmn22, hfn22, hf22_1⟩
  clear hcall hx
  refine ⟨.inl rfl, ?_⟩
  have hpk2 : MS w20 ([] ++ [[b18], [b8], [b3], []]) := hms.pick [some 0, some 1, some 2, some 3] _ rfl
  have hsb2 : ∀ x ∈ fl ([] ++ [[b18], [b8], [b3], []]), x ∈ fl [[b18], [b8], [b3], []] := pick_sub [some 0, some 1, some 2, some 3] _ rfl
  have hst0 := Stp.call (LS := [[b18], [b8], [b3], []]) (res := [blk a0_22]) (par := []) (R := [[b18], [b8], [b3], []]) he22 (fun b hb => hsb2 b (fl_left' (P := []) b hb)) hfn22 (NP.init _ _) (fun x hx => hsb2 x (fl_right' (P := []) x hx))
  have hsn : ∀ x ∈ fl [blk a0_22, [b18], [b8], [b3], []], x ∈ fl ([blk a0_22] ++ ([] ++ [[b18], [b8], [b3], []])) := pick_sub [some 0, some 1, some 2, some 3, some 4] _ rfl
  have hst := hst0.res hsn
  replace hs1 := hs1.step hst
  replace hb3 := he22.box hb3 ((MS.outs (P := []) hpk2 2 rfl) _ (List.mem_singleton.2 rfl))
  replace hs6 := hs6.step hst
  replace hb8 := he22.box hb8 ((MS.outs (P := []) hpk2 1 rfl) _ (List.mem_singleton.2 rfl))
  replace hf12_1 := hf12_1.step hst
  replace hf12_2 := hf12_2.step hst
  replace hf16_1 := hf16_1.step hst
  replace hb18 := he22.box hb18 ((MS.outs (P := []) hpk2 0 rfl) _ (List.mem_singleton.2 rfl))
  replace hms : MS w22 [blk a0_22, [b18], [b8], [b3], []] := (MS.call (P := []) (R := [[b18], [b8], [b3], []]) (res := [blk a0_22]) (par := []) hpk2 he22 hmn22 hfn22 (NP.init _ _)).pick [some 0, some 1, some 2, some 3, some 4] _ rfl
  have hfr2 : FR w.heap.size [blk a0_22, [b18], [b8], [b3]] := (FR.cons (fun b hb => Nat.le_trans hev.size (hfn22.at 0 rfl b hb)) (FR.cons (hfr.at 0 rfl) (FR.cons (hfr.at 1 rfl) (FR.cons (hfr.at 2 rfl) (FR.nil _)))))
  replace hev := hev.ext he22
  replace hfr := hfr2
  clear hfr2
  replace hf22_1 := OwnS.plain (M' := fl [blk a0_22, [b18], [b8], [b3], []]) (plain_int _) hf22_1
  clear hpk hsb hsb0 hpk2 hsb2 hst0 hsn hst
  have hpk : MS w22 [[b18], [b8], [b3], []] := hms.pick [some 1, some 2, some 3, some 4] _ rfl
  have hsu : ∀ x ∈ fl [[b18], [b8], [b3], []], x ∈ fl [blk a0_22, [b18], [b8], [b3], []] := pick_sub [some 1, some 2, some 3, some 4] _ rfl
  replace hs1 := hs1.sub hsu
  replace hs6 := hs6.sub hsu
  replace hf12_1 := hf12_1.sub hsu
  replace hf12_2 := hf12_2.sub hsu
  replace hf16_1 := hf16_1.sub hsu
  replace hf22_1 := hf22_1.ro hsu (pick_out hms 0 rfl [some 1, some 2, some 3, some 4] [[b18], [b8], [b3], []] rfl rfl)
  replace hms := hpk
  replace hfr : FR w.heap.size [[b18], [b8], [b3]] := hfr.pick [some 1, some 2, some 3] _ rfl
  clear hpk hsu
  refine x_pure 5 [(31, .tuple #[.slice a0_22 (x21.1).length c0_22, .int .i64 x21.2]), (35, .slice a0_22 (x21.1).length c0_22), (36, .int .i64 x21.2), (8, .slice a0_22 (x21.1).length c0_22), (9, .int .i64 x21.2)] _ _ _ (by kernel_rfl) ?_
  refine x_end rfl (k_then ?_)
  refine c_norm [(3, .slice a0_12 (x11.1).length c0_12), (4, .slice a3_12 (x11.2.1).length c3_12), (5, .int .i64 x11.2.2), (6, .pointer (some ⟨b18, 0, none⟩)), (7, .int .i64 x15.2), (8, .slice a0_22 (x21.1).length c0_22), (9, .int .i64 x21.2)] ⟨rfl, rfl, rfl, rfl, rfl, rfl, rfl, trivial⟩ (fun J => ?_)
  refine c_seq (c_plain ?_)
  refine x_pure 3 [(37, .int .i64 x11.2.2), (38, .bool (x11.2.2 == 0)), (39, .bool (x11.2.2 == 0))] _ _ _ (by kernel_rfl) ?_
  refine x_split 39 (x11.2.2 == 0) rfl (fun hb => ?_) (fun hb => ?_)
  · replace h := ite_t hb h
    refine x_pure 1 [(40, .slice a0_12 (x11.1).length c0_12)] _ _ _ (by kernel_rfl) ?_
    refine x_buildSlice (vs := [(0, .int .i64 0), (1, .int .i64 3)]) #[.int .i64 0, .int .i64 3] 3 rfl rfl rfl (by kernel_rfl) (fun b24 w24 hq24 hb24 he24 hz24 => ?_)
    refine ⟨.inl rfl, ?_⟩
    have hms0 := hms
    have hst := Stp.ext (ls := [[b18], [b8], [b3], []]) he24
    replace hs1 := hs1.step hst
    replace hb3 := he24.box hb3 nn
    replace hs6 := hs6.step hst
    replace hb8 := he24.box hb8 nn
    replace hf12_1 := hf12_1.step hst
    replace hf12_2 := hf12_2.step hst
    replace hf16_1 := hf16_1.step hst
    replace hb18 := he24.box hb18 nn
    replace hf22_1 := hf22_1.step hst
    replace hms := hms.ev he24
    replace hev := hev.ext he24
    have hs24 : SlR (eInt .i64) w24 (fl [[b18], [b8], [b3], []]) (some ⟨b24, 0, none⟩) 2 ([0, 3]) := ro_of_box hms0 hq24 hb24 rfl rfl (cells_at (cs := [.int .i64 0, .int .i64 3]) (CellsOf.cons (c := [.int .i64 0]) rfl (CellsOf.cons (c := [.int .i64 3]) rfl CellsOf.nil)))
    clear hb24 hms0
    refine x_buildSlice (vs := [(0, .int .i64 1)]) #[.int .i64 1] 3 rfl rfl rfl (by kernel_rfl) (fun b26 w26 hq26 hb26 he26 hz26 => ?_)
    refine ⟨.inl rfl, ?_⟩
    have hms0 := hms
    have hst := Stp.ext (ls := [[b18], [b8], [b3], []]) he26
    replace hs1 := hs1.step hst
    replace hb3 := he26.box hb3 nn
    replace hs6 := hs6.step hst
    replace hb8 := he26.box hb8 nn
    replace hf12_1 := hf12_1.step hst
    replace hf12_2 := hf12_2.step hst
    replace hf16_1 := hf16_1.step hst
    replace hb18 := he26.box hb18 nn
    replace hf22_1 := hf22_1.step hst
    replace hs24 := hs24.step hst
    replace hms := hms.ev he26
    replace hev := hev.ext he26
    have hs26 : SlR (eInt .i64) w26 (fl [[b18], [b8], [b3], []]) (some ⟨b26, 0, none⟩) 1 ([1]) := ro_of_box hms0 hq26 hb26 rfl rfl (cells_at (cs := [.int .i64 1]) (CellsOf.cons (c := [.int .i64 1]) rfl CellsOf.nil))
    clear hb26 hms0
    refine x_buildSlice (vs := [(0, .slice (some ⟨b24, 0, none⟩) ([0, 3]).length 2), (1, .slice (some ⟨b26, 0, none⟩) ([1]).length 1)]) #[.slice (some ⟨b24, 0, none⟩) ([0, 3]).length 2, .slice (some ⟨b26, 0, none⟩) ([1]).length 1] 22 rfl rfl rfl (by kernel_rfl) (fun b28 w28 hq28 hb28 he28 hz28 => ?_)
    refine ⟨.inl rfl, ?_⟩
    have hms0 := hms
    have hst := Stp.ext (ls := [[b18], [b8], [b3], []]) he28
    replace hs1 := hs1.step hst
    replace hb3 := he28.box hb3 nn
    replace hs6 := hs6.step hst
    replace hb8 := he28.box hb8 nn
    replace hf12_1 := hf12_1.step hst
    replace hf12_2 := hf12_2.step hst
    replace hf16_1 := hf16_1.step hst
    replace hb18 := he28.box hb18 nn
    replace hf22_1 := hf22_1.step hst
    replace hs24 := hs24.step hst
    replace hs26 := hs26.step hst
    replace hms := hms.ev he28
    replace hev := hev.ext he28
    have hs28 : SlR (eSl (eInt .i64)) w28 (fl [[b18], [b8], [b3], []]) (some ⟨b28, 0, none⟩) 2 ([[0, 3], [1]] : List (List Int)) := ro_of_box hms0 hq28 hb28 rfl rfl (cells_at (cs := [.slice (some ⟨b24, 0, none⟩) ([0, 3]).length 2, .slice (some ⟨b26, 0, none⟩) ([1]).length 1]) (CellsOf.cons (c := [.slice (some ⟨b24, 0, none⟩) ([0, 3]).length 2]) ⟨(some ⟨b24, 0, none⟩), 2, rfl, hs24⟩ (CellsOf.cons (c := [.slice (some ⟨b26, 0, none⟩) ([1]).length 1]) ⟨(some ⟨b26, 0, none⟩), 1, rfl, hs26⟩ CellsOf.nil)))
    clear hb28 hms0
    obtain ⟨x30, hx, h⟩ := bind_some h
    have hpk : MS w28 ([] ++ [[b18], [b8], [b3], []]) := hms.pick [some 0, some 1, some 2, some 3] _ rfl
    have hsb0 : ∀ x ∈ fl ([] ++ [[b18], [b8], [b3], []]), x ∈ fl [[b18], [b8], [b3], []] := pick_sub [some 0, some 1, some 2, some 3] _ rfl
    have hsb : ∀ x ∈ fl ([] ++ [(fl [[b18], [b8], [b3], []])]), x ∈ fl [[b18], [b8], [b3], []] := fun x hx => hsb0 x (fl_unfold x hx)
    have hcall := gen_Lists_w a0_12 c0_12 x11.1 (some ⟨b28, 0, none⟩) 2 ([[0, 3], [1]] : List (List Int)) _ w28 (fl [[b18], [b8], [b3], []]) (MS.fold (P := []) hpk) (hf12_1.sub hsb) (hs28.sub hsb) hx
    refine x_call 20 #[] #[] [.slice a0_12 (x11.1).length c0_12, .slice (some ⟨b28, 0, none⟩) (([[0, 3], [1]] : List (List Int))).length 2] _ rfl rfl rfl rfl hcall ?_
    rintro v w31 ⟨rfl, he31⟩
    clear hcall hx
    refine ⟨.inl rfl, ?_⟩
    have hst := Stp.ext (ls := [[b18], [b8], [b3], []]) he31
    replace hs1 := hs1.step hst
    replace hb3 := he31.box hb3 nn
    replace hs6 := hs6.step hst
    replace hb8 := he31.box hb8 nn
    replace hf12_1 := hf12_1.step hst
    replace hf12_2 := hf12_2.step hst
    replace hf16_1 := hf16_1.step hst
    replace hb18 := he31.box hb18 nn
    replace hf22_1 := hf22_1.step hst
    replace hs24 := hs24.step hst
    replace hs26 := hs26.step hst
    replace hs28 := hs28.step hst
    replace hms := hms.ev he31
    replace hev := hev.ext he31
    clear hpk hsb hsb0
    refine x_pure 2 [(45, .bool x30), (46, .bool x30)] _ _ _ (by kernel_rfl) ?_
    refine x_split 46 x30 rfl (fun hb => ?_) (fun hb => ?_)
    · replace h := ite_t hb h
      refine x_pure 1 [(47, .slice a3_12 (x11.2.1).length c3_12)] _ _ _ (by kernel_rfl) ?_
      refine x_buildSlice (vs := [(0, .int .i64 2)]) #[.int .i64 2] 3 rfl rfl rfl (by kernel_rfl) (fun b32 w32 hq32 hb32 he32 hz32 => ?_)
      refine ⟨.inl rfl, ?_⟩
      have hms0 := hms
      have hst := Stp.ext (ls := [[b18], [b8], [b3], []]) he32
      replace hs1 := hs1.step hst
      replace hb3 := he32.box hb3 nn
      replace hs6 := hs6.step hst
      replace hb8 := he32.box hb8 nn
      replace hf12_1 := hf12_1.step hst
      replace hf12_2 := hf12_2.step hst
      replace hf16_1 := hf16_1.step hst
      replace hb18 := he32.box hb18 nn
      replace hf22_1 := hf22_1.step hst
      replace hs24 := hs24.step hst
      replace hs26 := hs26.step hst
      replace hs28 := hs28.step hst
      replace hms := hms.ev he32
      replace hev := hev.ext he32
      have hs32 : SlR (eInt .i64) w32 (fl [[b18], [b8], [b3], []]) (some ⟨b32, 0, none⟩) 1 ([2]) := ro_of_box hms0 hq32 hb32 rfl rfl (cells_at (cs := [.int .i64 2]) (CellsOf.cons (c := [.int .i64 2]) rfl CellsOf.nil))
      clear hb32 hms0
      refine x_buildSlice (vs := [(0, .slice (some ⟨b32, 0, none⟩) ([2]).length 1)]) #[.slice (some ⟨b32, 0, none⟩) ([2]).length 1] 22 rfl rfl rfl (by kernel_rfl) (fun b34 w34 hq34 hb34 he34 hz34 => ?_)
      refine ⟨.inl rfl, ?_⟩
      have hms0 := hms
      have hst := Stp.ext (ls := [[b18], [b8], [b3], []]) he34
      replace hs1 := hs1.step hst
      replace hb3 := he34.box hb3 nn
      replace hs6 := hs6.step hst
      replace hb8 := he34.box hb8 nn
      replace hf12_1 := hf12_1.step hst
      replace hf12_2 := hf12_2.step hst
      replace hf16_1 := hf16_1.step hst
      replace hb18 := he34.box hb18 nn
      replace hf22_1 := hf22_1.step hst
      replace hs24 := hs24.step hst
      replace hs26 := hs26.step hst
      replace hs28 := hs28.step hst
      replace hs32 := hs32.step hst
      replace hms := hms.ev he34
      replace hev := hev.ext he34
      have hs34 : SlR (eSl (eInt .i64)) w34 (fl [[b18], [b8], [b3], []]) (some ⟨b34, 0, none⟩) 1 ([[2]] : List (List Int)) := ro_of_box hms0 hq34 hb34 rfl rfl (cells_at (cs := [.slice (some ⟨b32, 0, none⟩) ([2]).length 1]) (CellsOf.cons (c := [.slice (some ⟨b32, 0, none⟩) ([2]).length 1]) ⟨(some ⟨b32, 0, none⟩), 1, rfl, hs32⟩ CellsOf.nil))
      clear hb34 hms0
      obtain ⟨x36, hx, h⟩ := bind_some h
      have hpk : MS w34 ([] ++ [[b18], [b8], [b3], []]) := hms.pick [some 0, some 1, some 2, some 3] _ rfl
      have hsb0 : ∀ x ∈ fl ([] ++ [[b18], [b8], [b3], []]), x ∈ fl [[b18], [b8], [b3], []] := pick_sub [some 0, some 1, some 2, some 3] _ rfl
      have hsb : ∀ x ∈ fl ([] ++ [(fl [[b18], [b8], [b3], []])]), x ∈ fl [[b18], [b8], [b3], []] := fun x hx => hsb0 x (fl_unfold x hx)
      have hcall := gen_Lists_w a3_12 c3_12 x11.2.1 (some ⟨b34, 0, none⟩) 1 ([[2]] : List (List Int)) _ w34 (fl [[b18], [b8], [b3], []]) (MS.fold (P := []) hpk) (hf12_2.sub hsb) (hs34.sub hsb) hx
      refine x_call 20 #[] #[] [.slice a3_12 (x11.2.1).length c3_12, .slice (some ⟨b34, 0, none⟩) (([[2]] : List (List Int))).length 1] _ rfl rfl rfl rfl hcall ?_
      rintro v w37 ⟨rfl, he37⟩
      clear hcall hx
      refine ⟨.inl rfl, ?_⟩
      have hst := Stp.ext (ls := [[b18], [b8], [b3], []]) he37
      replace hs1 := hs1.step hst
      replace hb3 := he37.box hb3 nn
      replace hs6 := hs6.step hst
      replace hb8 := he37.box hb8 nn
      replace hf12_1 := hf12_1.step hst
      replace hf12_2 := hf12_2.step hst
      replace hf16_1 := hf16_1.step hst
      replace hb18 := he37.box hb18 nn
      replace hf22_1 := hf22_1.step hst
      replace hs24 := hs24.step hst
      replace hs26 := hs26.step hst
      replace hs28 := hs28.step hst
      replace hs32 := hs32.step hst
      replace hs34 := hs34.step hst
      replace hms := hms.ev he37
      replace hev := hev.ext he37
      clear hpk hsb hsb0
      refine x_pure 2 [(51, .bool x36), (52, .bool x36)] _ _ _ (by kernel_rfl) ?_
      refine x_split 52 x36 rfl (fun hb => ?_) (fun hb => ?_)
      · replace h := ite_t hb h
        refine x_pure 4 [(53, .int .i64 x15.2), (54, .bool (x15.2 == 0)), (55, .bool (x15.2 == 0)), (56, .bool (x15.2 == 0))] _ _ _ (by kernel_rfl) ?_
        refine x_split 56 (x15.2 == 0) rfl (fun hb => ?_) (fun hb => ?_)
        · replace h := ite_t hb h
          refine x_fieldAddr (xv := .pointer (some ⟨b18, 0, none⟩)) (.pointer (some ⟨b18, 0, none⟩)) rfl rfl rfl (reads_field tfld34_0 _ _) ?_
          refine x_load (xv := .pointer (some ⟨b18, 0, none⟩)) (.slice a0_16 (x15.1.1).length c0_16) rfl rfl rfl (reads_box tcell32 hb18 nn 0 _ rfl) ?_
          refine x_buildSlice (vs := [(0, .int .i64 2), (1, .int .i64 0), (2, .int .i64 3), (3, .int .i64 1)]) #[.int .i64 2, .int .i64 0, .int .i64 3, .int .i64 1] 3 rfl rfl rfl (by kernel_rfl) (fun b38 w38 hq38 hb38 he38 hz38 => ?_)
          refine ⟨.inl rfl, ?_⟩
          have hms0 := hms
          have hst := Stp.ext (ls := [[b18], [b8], [b3], []]) he38
          replace hs1 := hs1.step hst
          replace hb3 := he38.box hb3 nn
          replace hs6 := hs6.step hst
          replace hb8 := he38.box hb8 nn
          replace hf12_1 := hf12_1.step hst
          replace hf12_2 := hf12_2.step hst
          replace hf16_1 := hf16_1.step hst
          replace hb18 := he38.box hb18 nn
          replace hf22_1 := hf22_1.step hst
          replace hs24 := hs24.step hst
          replace hs26 := hs26.step hst
          replace hs28 := hs28.step hst
          replace hs32 := hs32.step hst
          replace hs34 := hs34.step hst
          replace hms := hms.ev he38
          replace hev := hev.ext he38
          have hs38 : SlR (eInt .i64) w38 (fl [[b18], [b8], [b3], []]) (some ⟨b38, 0, none⟩) 4 ([2, 0, 3, 1]) := ro_of_box hms0 hq38 hb38 rfl rfl (cells_at (cs := [.int .i64 2, .int .i64 0, .int .i64 3, .int .i64 1]) (CellsOf.cons (c := [.int .i64 2]) rfl (CellsOf.cons (c := [.int .i64 0]) rfl (CellsOf.cons (c := [.int .i64 3]) rfl (CellsOf.cons (c := [.int .i64 1]) rfl CellsOf.nil)))))
          clear hb38 hms0
          refine x_buildSlice (vs := [(0, .slice (some ⟨b38, 0, none⟩) ([2, 0, 3, 1]).length 4)]) #[.slice (some ⟨b38, 0, none⟩) ([2, 0, 3, 1]).length 4] 22 rfl rfl rfl (by kernel_rfl) (fun b40 w40 hq40 hb40 he40 hz40 => ?_)
          refine ⟨.inl rfl, ?_⟩
          have hms0 := hms
          have hst := Stp.ext (ls := [[b18], [b8], [b3], []]) he40
          replace hs1 := hs1.step hst
          replace hb3 := he40.box hb3 nn
          replace hs6 := hs6.step hst
          replace hb8 := he40.box hb8 nn
          replace hf12_1 := hf12_1.step hst
          replace hf12_2 := hf12_2.step hst
          replace hf16_1 := hf16_1.step hst
          replace hb18 := he40.box hb18 nn
          replace hf22_1 := hf22_1.step hst
          replace hs24 := hs24.step hst
          replace hs26 := hs26.step hst
          replace hs28 := hs28.step hst
          replace hs32 := hs32.step hst
          replace hs34 := hs34.step hst
          replace hs38 := hs38.step hst
          replace hms := hms.ev he40
          replace hev := hev.ext he40
          have hs40 : SlR (eSl (eInt .i64)) w40 (fl [[b18], [b8], [b3], []]) (some ⟨b40, 0, none⟩) 1 ([[2, 0, 3, 1]] : List (List Int)) := ro_of_box hms0 hq40 hb40 rfl rfl (cells_at (cs := [.slice (some ⟨b38, 0, none⟩) ([2, 0, 3, 1]).length 4]) (CellsOf.cons (c := [.slice (some ⟨b38, 0, none⟩) ([2, 0, 3, 1]).length 4]) ⟨(some ⟨b38, 0, none⟩), 4, rfl, hs38⟩ CellsOf.nil))
          clear hb40 hms0
          obtain ⟨x42, hx, h⟩ := bind_some h
          have hpk : MS w40 ([] ++ [[b18], [b8], [b3], []]) := hms.pick [some 0, some 1, some 2, some 3] _ rfl
          have hsb0 : ∀ x ∈ fl ([] ++ [[b18], [b8], [b3], []]), x ∈ fl [[b18], [b8], [b3], []] := pick_sub [some 0, some 1, some 2, some 3] _ rfl
          have hsb : ∀ x ∈ fl ([] ++ [(fl [[b18], [b8], [b3], []])]), x ∈ fl [[b18], [b8], [b3], []] := fun x hx => hsb0 x (fl_unfold x hx)
          have hcall := gen_Lists_w a0_16 c0_16 x15.1.1 (some ⟨b40, 0, none⟩) 1 ([[2, 0, 3, 1]] : List (List Int)) _ w40 (fl [[b18], [b8], [b3], []]) (MS.fold (P := []) hpk) (hf16_1.sub hsb) (hs40.sub hsb) hx
          refine x_call 20 #[] #[] [.slice a0_16 (x15.1.1).length c0_16, .slice (some ⟨b40, 0, none⟩) (([[2, 0, 3, 1]] : List (List Int))).length 1] _ rfl rfl rfl rfl hcall ?_
          rintro v w43 ⟨rfl, he43⟩
          clear hcall hx
          refine ⟨.inl rfl, ?_⟩
          have hst := Stp.ext (ls := [[b18], [b8], [b3], []]) he43
          replace hs1 := hs1.step hst
          replace hb3 := he43.box hb3 nn
          replace hs6 := hs6.step hst
          replace hb8 := he43.box hb8 nn
          replace hf12_1 := hf12_1.step hst
          replace hf12_2 := hf12_2.step hst
          replace hf16_1 := hf16_1.step hst
          replace hb18 := he43.box hb18 nn
          replace hf22_1 := hf22_1.step hst
          replace hs24 := hs24.step hst
          replace hs26 := hs26.step hst
          replace hs28 := hs28.step hst
          replace hs32 := hs32.step hst
          replace hs34 := hs34.step hst
          replace hs38 := hs38.step hst
          replace hs40 := hs40.step hst
          replace hms := hms.ev he43
          replace hev := hev.ext he43
          clear hpk hsb hsb0
          refine x_pure 2 [(62, .bool x42), (63, .bool x42)] _ _ _ (by kernel_rfl) ?_
          refine x_split 63 x42 rfl (fun hb => ?_) (fun hb => ?_)
          · replace h := ite_t hb h
            refine x_fieldAddr (xv := .pointer (some ⟨b18, 0, none⟩)) (.pointer (some ⟨b18, 1, none⟩)) rfl rfl rfl (reads_field tfld34_1 _ _) ?_
            refine x_load (xv := .pointer (some ⟨b18, 1, none⟩)) (.int .i64 x15.1.2) rfl rfl rfl (reads_box tcell3 hb18 nn 1 _ rfl) ?_
            refine x_pure 3 [(66, .bool (x15.1.2 == 7)), (67, .bool (x15.1.2 == 7)), (68, .bool (x15.1.2 == 7))] _ _ _ (by kernel_rfl) ?_
            refine x_split 68 (x15.1.2 == 7) rfl (fun hb => ?_) (fun hb => ?_)
            · replace h := ite_t hb h
              refine x_pure 4 [(69, .int .i64 x21.2), (70, .bool (x21.2 == 0)), (71, .bool (x21.2 == 0)), (72, .bool (x21.2 == 0))] _ _ _ (by kernel_rfl) ?_
              refine x_split 72 (x21.2 == 0) rfl (fun hb => ?_) (fun hb => ?_)
              · replace h := ite_t hb h
                refine x_pure 1 [(73, .slice a0_22 (x21.1).length c0_22)] _ _ _ (by kernel_rfl) ?_
                refine x_buildSlice (vs := [(0, .int .i64 160), (1, .int .i64 80), (2, .int .i64 320)]) #[.int .i64 160, .int .i64 80, .int .i64 320] 3 rfl rfl rfl (by kernel_rfl) (fun b44 w44 hq44 hb44 he44 hz44 => ?_)
                refine ⟨.inl rfl, ?_⟩
                have hms0 := hms
                have hst := Stp.ext (ls := [[b18], [b8], [b3], []]) he44
                replace hs1 := hs1.step hst
                replace hb3 := he44.box hb3 nn
                replace hs6 := hs6.step hst
                replace hb8 := he44.box hb8 nn
                replace hf12_1 := hf12_1.step hst
                replace hf12_2 := hf12_2.step hst
                replace hf16_1 := hf16_1.step hst
                replace hb18 := he44.box hb18 nn
                replace hf22_1 := hf22_1.step hst
                replace hs24 := hs24.step hst
                replace hs26 := hs26.step hst
                replace hs28 := hs28.step hst
                replace hs32 := hs32.step hst
                replace hs34 := hs34.step hst
                replace hs38 := hs38.step hst
                replace hs40 := hs40.step hst
                replace hms := hms.ev he44
                replace hev := hev.ext he44
                have hs44 : SlR (eInt .i64) w44 (fl [[b18], [b8], [b3], []]) (some ⟨b44, 0, none⟩) 3 ([160, 80, 320]) := ro_of_box hms0 hq44 hb44 rfl rfl (cells_at (cs := [.int .i64 160, .int .i64 80, .int .i64 320]) (CellsOf.cons (c := [.int .i64 160]) rfl (CellsOf.cons (c := [.int .i64 80]) rfl (CellsOf.cons (c := [.int .i64 320]) rfl CellsOf.nil))))
                clear hb44 hms0
                obtain ⟨x46, hx, h⟩ := bind_some h
                have hpk : MS w44 ([] ++ [[b18], [b8], [b3], []]) := hms.pick [some 0, some 1, some 2, some 3] _ rfl
                have hsb0 : ∀ x ∈ fl ([] ++ [[b18], [b8], [b3], []]), x ∈ fl [[b18], [b8], [b3], []] := pick_sub [some 0, some 1, some 2, some 3] _ rfl
                have hsb : ∀ x ∈ fl ([] ++ [(fl [[b18], [b8], [b3], []])]), x ∈ fl [[b18], [b8], [b3], []] := fun x hx => hsb0 x (fl_unfold x hx)
                have hcall := gen_Ints_w a0_22 c0_22 x21.1 (some ⟨b44, 0, none⟩) 3 ([160, 80, 320]) _ w44 (fl [[b18], [b8], [b3], []]) (MS.fold (P := []) hpk) (hf22_1.sub hsb) (hs44.sub hsb) hx
                refine x_call 19 #[] #[] [.slice a0_22 (x21.1).length c0_22, .slice (some ⟨b44, 0, none⟩) ([160, 80, 320]).length 3] _ rfl rfl rfl rfl hcall ?_
                rintro v w47 ⟨rfl, he47⟩
                clear hcall hx
                refine ⟨.inl rfl, ?_⟩
                have hst := Stp.ext (ls := [[b18], [b8], [b3], []]) he47
                replace hs1 := hs1.step hst
                replace hb3 := he47.box hb3 nn
                replace hs6 := hs6.step hst
                replace hb8 := he47.box hb8 nn
                replace hf12_1 := hf12_1.step hst
                replace hf12_2 := hf12_2.step hst
                replace hf16_1 := hf16_1.step hst
                replace hb18 := he47.box hb18 nn
                replace hf22_1 := hf22_1.step hst
                replace hs24 := hs24.step hst
                replace hs26 := hs26.step hst
                replace hs28 := hs28.step hst
                replace hs32 := hs32.step hst
                replace hs34 := hs34.step hst
                replace hs38 := hs38.step hst
                replace hs40 := hs40.step hst
                replace hs44 := hs44.step hst
                replace hms := hms.ev he47
                replace hev := hev.ext he47
                clear hpk hsb hsb0
                refine x_pure 2 [(76, .bool x46), (0, .bool x46)] _ _ _ (by kernel_rfl) ?_
                refine x_end rfl (k_then ?_)
                refine c_norm [(0, .bool x46)] ⟨rfl, trivial⟩ (fun J => ?_)
                refine c_ret ?_
                refine r_ret (r_vals [.bool x46] ⟨rfl, trivial⟩ ?_)
                have hx := some_inj h
                subst hx
                exact ⟨rfl, hev⟩
              replace h := ite_f hb h
              refine x_pure 5 [(73, undef), (74, undef), (75, undef), (76, .bool false), (0, .bool false)] _ _ _ (by kernel_rfl) ?_
              refine x_end rfl (k_then ?_)
              refine c_norm [(0, .bool false)] ⟨rfl, trivial⟩ (fun J => ?_)
              refine c_ret ?_
              refine r_ret (r_vals [.bool false] ⟨rfl, trivial⟩ ?_)
              have hx := some_inj h
              subst hx
              exact ⟨rfl, hev⟩
            replace h := ite_f hb h
            refine x_pure 9 [(69, undef), (70, undef), (71, .bool false), (72, .bool false), (73, undef), (74, undef), (75, undef), (76, .bool false), (0, .bool false)] _ _ _ (by kernel_rfl) ?_
            refine x_end rfl (k_then ?_)
            refine c_norm [(0, .bool false)] ⟨rfl, trivial⟩ (fun J => ?_)
            refine c_ret ?_
            refine r_ret (r_vals [.bool false] ⟨rfl, trivial⟩ ?_)
            have hx := some_inj h
            subst hx
            exact ⟨rfl, hev⟩
          replace h := ite_f hb h
          refine x_pure 14 [(64, undef), (65, undef), (66, undef), (67, .bool false), (68, .bool false), (69, undef), (70, undef), (71, .bool false), (72, .bool false), (73, undef), (74, undef), (75, undef), (76, .bool false), (0, .bool false)] _ _ _ (by kernel_rfl) ?_
          refine x_end rfl (k_then ?_)
          refine c_norm [(0, .bool false)] ⟨rfl, trivial⟩ (fun J => ?_)
          refine c_ret ?_
          refine r_ret (r_vals [.bool false] ⟨rfl, trivial⟩ ?_)
          have hx := some_inj h
          subst hx
          exact ⟨rfl, hev⟩
        replace h := ite_f hb h
        refine x_pure 21 [(57, undef), (58, undef), (59, undef), (60, undef), (61, undef), (62, .bool false), (63, .bool false), (64, undef), (65, undef), (66, undef), (67, .bool false), (68, .bool false), (69, undef), (70, undef), (71, .bool false), (72, .bool false), (73, undef), (74, undef), (75, undef), (76, .bool false), (0, .bool false)] _ _ _ (by kernel_rfl) ?_
        refine x_end rfl (k_then ?_)
        refine c_norm [(0, .bool false)] ⟨rfl, trivial⟩ (fun J => ?_)
        refine c_ret ?_
        refine r_ret (r_vals [.bool false] ⟨rfl, trivial⟩ ?_)
        have hx := some_inj h
        subst hx
        exact ⟨rfl, hev⟩
      replace h := ite_f hb h
      refine x_pure 25 [(53, undef), (54, undef), (55, .bool false), (56, .bool false), (57, undef), (58, undef), (59, undef), (60, undef), (61, undef), (62, .bool false), (63, .bool false), (64, undef), (65, undef), (66, undef), (67, .bool false), (68, .bool false), (69, undef), (70, undef), (71, .bool false), (72, .bool false), (73, undef), (74, undef), (75, undef), (76, .bool false), (0, .bool false)] _ _ _ (by kernel_rfl) ?_
      refine x_end rfl (k_then ?_)
      refine c_norm [(0, .bool false)] ⟨rfl, trivial⟩ (fun J => ?_)
      refine c_ret ?_
      refine r_ret (r_vals [.bool false] ⟨rfl, trivial⟩ ?_)
      have hx := some_inj h
      subst hx
      exact ⟨rfl, hev⟩
    replace h := ite_f hb h
    refine x_pure 31 [(47, undef), (48, undef), (49, undef), (50, undef), (51, .bool false), (52, .bool false), (53, undef), (54, undef), (55, .bool false), (56, .bool false), (57, undef), (58, undef), (59, undef), (60, undef), (61, undef), (62, .bool false), (63, .bool false), (64, undef), (65, undef), (66, undef), (67, .bool false), (68, .bool false), (69, undef), (70, undef), (71, .bool false), (72, .bool false), (73, undef), (74, undef), (75, undef), (76, .bool false), (0, .bool false)] _ _ _ (by kernel_rfl) ?_
    refine x_end rfl (k_then ?_)
    refine c_norm [(0, .bool false)] ⟨rfl, trivial⟩ (fun J => ?_)
    refine c_ret ?_
    refine r_ret (r_vals [.bool false] ⟨rfl, trivial⟩ ?_)
    have hx := some_inj h
    subst hx
    exact ⟨rfl, hev⟩
  replace h := ite_f hb h
  refine x_pure 38 [(40, undef), (41, undef), (42, undef), (43, undef), (44, undef), (45, .bool false), (46, .bool false), (47, undef), (48, undef), (49, undef), (50, undef), (51, .bool false), (52, .bool false), (53, undef), (54, undef), (55, .bool false), (56, .bool false), (57, undef), (58, undef), (59, undef), (60, undef), (61, undef), (62, .bool false), (63, .bool false), (64, undef), (65, undef), (66, undef), (67, .bool false), (68, .bool false), (69, undef), (70, undef), (71, .bool false), (72, .bool false), (73, undef), (74, undef), (75, undef), (76, .bool false), (0, .bool false)] _ _ _ (by kernel_rfl) ?_
  refine x_end rfl (k_then ?_)
  refine c_norm [(0, .bool false)] ⟨rfl, trivial⟩ (fun J => ?_)
  refine c_ret ?_
  refine r_ret (r_vals [.bool false] ⟨rfl, trivial⟩ ?_)
  have hx := some_inj h
  subst hx
  exact ⟨rfl, hev⟩
end Go.Proofs.Ytmjobkpgnhbcbaa
