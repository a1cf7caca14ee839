/- Walks, printed by program: each function returns what the partial function of the same name returns. Conditions: those of each theorem. -/
import Derived.Test.YtdbomhhcebmkpaaGT
import Derived.Test.YtdbomhhcebmkpaaGassign
import Derived.Test.YtdbomhhcebmkpaaGgen
import Derived.Test.YtdbomhhcebmkpaaGlaw16lists
import Derived.Test.YtdbomhhcebmkpaaGlaw16sane
set_option linter.unusedVariables false
set_option linter.unusedSimpArgs false
set_option maxRecDepth 4000
namespace Go.Proofs.Ytdbomhhcebmkpaa
open Go Go.V Go.Proofs
def law16_AssignMonotone_L36 (x2 : ((List Int) × Int)) (x6 : (List Int) × (List Int) × Int) (s : Int × (List Int) × Int) : Option (Step (Int × (List Int) × Int) (Int × (List Int))) :=
match s with
| (e4_l36_1, d18_l36, t56__s56_l36) =>
(if (decide (t56__s56_l36 < (((([] : List Int) ++ x6.2.1)).length : Int))) = true then
((idx d18_l36 t56__s56_l36).bind fun x38 =>
((gen_Maker_Pick x2.1 e4_l36_1 ([0, 0, 1, 4])).bind fun x43 =>
((idx d18_l36 t56__s56_l36).bind fun x45 =>
some (.next (x43.2, (d18_l36.set (Int.toNat t56__s56_l36) (IntKind.i64.wrap (x38 + x43.1))), IntKind.i64.wrap (t56__s56_l36 + 1))))))
else
some (.done (e4_l36_1, d18_l36)))

def law16_AssignMonotone_L21 (x2 : ((List Int) × Int)) (x6 : (List Int) × (List Int) × Int) (s : Int × (List Int) × Int) : Option (Step (Int × (List Int) × Int) (Int × (List Int))) :=
match s with
| (e4_l21_1, d15_l21, t38__s38_l21) =>
(if (decide (t38__s38_l21 < (((([] : List Int) ++ x6.1)).length : Int))) = true then
((idx d15_l21 t38__s38_l21).bind fun x23 =>
((gen_Maker_Pick x2.1 e4_l21_1 ([0, 0, 1, 4])).bind fun x28 =>
((idx d15_l21 t38__s38_l21).bind fun x30 =>
some (.next (x28.2, (d15_l21.set (Int.toNat t38__s38_l21) (if (IntKind.i64.wrap (x23 - x28.1)) > 0 then (IntKind.i64.wrap (x23 - x28.1)) else 0)), IntKind.i64.wrap (t38__s38_l21 + 1))))))
else
some (.done (e4_l21_1, d15_l21)))

def law16_AssignMonotone (p0 : List Int) : Option Bool :=
((gen_New p0).bind fun x2 =>
((law16_lists x2.1 x2.2 7).bind fun x6 =>
((assign_Match x6.1 x6.2.1).bind fun x10 =>
(if ([] : List Int).length + x6.1.length ≤ 4294967296 then
(if ([] : List Int).length + x6.2.1.length ≤ 4294967296 then
((loop (law16_AssignMonotone_L21 x2 x6) (x6.2.2, (([] : List Int) ++ x6.1), 0)).bind fun d => match d with
| (e4_x21_1, d15_x21) => ((loop (law16_AssignMonotone_L36 x2 x6) (e4_x21_1, (([] : List Int) ++ x6.2.1), 0)).bind fun d => match d with
| (e4_x36_1, d18_x36) => ((gen_Maker_From x2.1 e4_x36_1 1 20).bind fun x50 =>
(if d18_x36.length + ([x50.1]).length ≤ 4294967296 then
((assign_Match d15_x21 (d18_x36 ++ [x50.1])).bind fun x55 =>
(if (x10.2.2 != 0) = true then
(if (x10.2.2 == 0) = true then
((law16_sane).bind fun x59 =>
some x59)
else
(if (x10.2.2 == 14) = true then
((law16_sane).bind fun x61 =>
some x61)
else
some false))
else
(if (x55.2.2 == 0) = true then
(if (x10.2.2 == 0) = true then
((law16_sane).bind fun x63 =>
some x63)
else
(if (x10.2.2 == 14) = true then
((law16_sane).bind fun x65 =>
some x65)
else
some false))
else
some false)))
else none))))
else none)
else none))))

theorem law16_AssignMonotone_w (a_p0 : Option Addr) (c_p0 : Nat) (p0 : List Int) (r : Bool) (w : World) (M : List Nat) (hms : MS w [M]) (hs_p0 : SlR (eInt .i64) w (fl [M]) a_p0 c_p0 p0) (h : law16_AssignMonotone p0 = some r) : CallVC Try.prog 7 [.slice a_p0 (p0).length c_p0] w fun v w' => v = .bool r ∧ Ev [] w w' := by
 refine calls_vc hmx Try.func7 (by kernel_rfl) rfl (rs := [.tmp 2]) rfl (by kernel_rfl) (args := [.slice a_p0 (p0).length c_p0]) rfl ?_
 have hev : Ev [] w w := Ev.refl _ _
 have hfr : FR w.heap.size [] := FR.nil _
 refine c_sp ?_
 refine x_pure 1 [(2, .bool false)] _ _ _ (by kernel_rfl) ?_
 refine x_ek ?_
 refine c_sp ?_
 refine x_pure 1 [(16, .slice a_p0 (p0).length c_p0)] _ _ _ (by kernel_rfl) ?_
 obtain ⟨x2, hx, h⟩ := bind_some h
 have hpk : MS w ([] ++ [M]) := hms.pick [some 0] _ rfl
 have hsb0 : ∀ x ∈ fl ([] ++ [M]), x ∈ fl [M] := pick_sub [some 0] _ rfl
 have hsb : ∀ x ∈ fl ([] ++ [(fl [M])]), x ∈ fl [M] := fun x hx => hsb0 x (fl_unfold x hx)
 have hcall := gen_New_w a_p0 c_p0 p0 _ w (fl [M]) (MS.fold (P := []) hpk) (hs_p0.sub hsb) hx
 refine x_call 12 #[] #[] [.slice a_p0 (p0).length c_p0] _ rfl rfl rfl rfl hcall ?_
 rintro v w3 ⟨b0_3, a1_3, c1_3, rfl, he3, hmn3, hfn3, hf3_1, hf3_2⟩
 clear hcall hx
 refine inl1 ?_
 have hpk2 : MS w ([] ++ [M]) := hms.pick [some 0] _ rfl
 have hsb2 : ∀ x ∈ fl ([] ++ [M]), x ∈ fl [M] := pick_sub [some 0] _ rfl
 have hst0 := Stp.call (LS := [M]) (res := [[b0_3]]) (par := []) (R := [M]) he3 (fun b hb => hsb2 b (fl_left' (P := []) b hb)) hfn3 (NP.init _ _) (fun x hx => hsb2 x (fl_right' (P := []) x hx))
 have hsn : ∀ x ∈ fl [[b0_3], M], x ∈ fl ([[b0_3]] ++ ([] ++ [M])) := pick_sub [some 0, some 1] _ rfl
 have hst := hst0.res hsn
 replace hs_p0 := hs_p0.step hst
 replace hms : MS w3 [[b0_3], M] := (MS.call (P := []) (R := [M]) (res := [[b0_3]]) (par := []) hpk2 he3 hmn3 hfn3 (NP.init _ _)).pick [some 0, some 1] _ rfl
 have hfr2 : FR w.heap.size [[b0_3]] := (FR.cons (fun b hb => Nat.le_trans hev.size (hfn3.at 0 rfl b hb)) (FR.nil _))
 replace hev := hev.ext he3
 replace hfr := hfr2
 clear hfr2
 have hsp : ∀ x ∈ fl [[b0_3], M], x ∈ fl ([[b0_3]] ++ ([] ++ [(fl [M])])) := fun x hx => fl_tot (res := [[b0_3]]) (par := []) (R := [M]) x (hsn x hx)
 replace hf3_2 := hf3_2.sub hsp
 clear hpk hsb hsb0 hpk2 hsb2 hst0 hsn hst
 refine x_pure 1 [(3, Vp b0_3 0)] _ _ _ (by kernel_rfl) ?_
 refine x_ek ?_
 refine c_sp ?_
 refine x_pure 1 [(19, Vp b0_3 0)] _ _ _ (by kernel_rfl) ?_
 obtain ⟨x6, hx, h⟩ := bind_some h
 have hpk : MS w3 ([[b0_3]] ++ [M]) := hms.pick [some 0, some 1] _ rfl
 have hsb0 : ∀ x ∈ fl ([[b0_3]] ++ [M]), x ∈ fl [[b0_3], M] := pick_sub [some 0, some 1] _ rfl
 have hsb : ∀ x ∈ fl ([[b0_3]] ++ [(fl [M])]), x ∈ fl [[b0_3], M] := fun x hx => hsb0 x (fl_unfold x hx)
 have hcall := law16_lists_w b0_3 a1_3 c1_3 x2.1 x2.2 7 _ w3 (fl [M]) (hpk.fold (P := [[b0_3]])) (hf3_2.sub hsb) hf3_1 hx
 refine x_call 13 #[] #[] [Vp b0_3 0, Vi 7] _ rfl rfl rfl rfl hcall ?_
 rintro v w7 ⟨a0_7, c0_7, a2_7, c2_7, rfl, he7, hp7_0, hmn7, hfn7, hf7_1, hf7_2⟩
 clear hcall hx
 refine inl1 ?_
 have hpk2 : MS w3 ([[b0_3]] ++ [M]) := hms.pick [some 0, some 1] _ rfl
 have hsb2 : ∀ x ∈ fl ([[b0_3]] ++ [M]), x ∈ fl [[b0_3], M] := pick_sub [some 0, some 1] _ rfl
 have hst0 := Stp.call (LS := [[b0_3], M]) (res := [blk a0_7, blk a2_7]) (par := [[b0_3]]) (R := [M]) he7 (fun b hb => hsb2 b (fl_left' (P := [[b0_3]]) b hb)) hfn7 (NP.init _ _) (fun x hx => hsb2 x (fl_right' (P := [[b0_3]]) x hx))
 have hsn : ∀ x ∈ fl [blk a0_7, blk a2_7, [b0_3], M], x ∈ fl ([blk a0_7, blk a2_7] ++ ([[b0_3]] ++ [M])) := pick_sub [some 0, some 1, some 2, some 3] _ rfl
 have hst := hst0.res hsn
 replace hf3_2 := hf3_2.step hst
 replace hms : MS w7 [blk a0_7, blk a2_7, [b0_3], M] := (MS.call (P := [[b0_3]]) (R := [M]) (res := [blk a0_7, blk a2_7]) (par := [[b0_3]]) hpk2 he7 hmn7 hfn7 (NP.init _ _)).pick [some 0, some 1, some 2, some 3] _ rfl
 have hPf : ∀ b ∈ fl [[b0_3]], w.heap.size ≤ b := FR.mem (ls := [[b0_3]]) (hfr.pick [some 0] _ rfl)
 have hfr2 : FR w.heap.size [blk a0_7, blk a2_7, [b0_3]] := (FR.cons (fun b hb => Nat.le_trans hev.size (hfn7.at 0 rfl b hb)) (FR.cons (fun b hb => Nat.le_trans hev.size (hfn7.at 1 rfl b hb)) (FR.cons (hfr.at 0 rfl) (FR.nil _))))
 replace hev := hev.then he7 (fun b hb => .inr (hPf b hb))
 replace hfr := hfr2
 clear hfr2
 replace hf3_1 := hp7_0
 replace hf7_1 := OwnS.plain (M' := fl [blk a0_7, blk a2_7, [b0_3], M]) (plain_int _) hf7_1
 replace hf7_2 := OwnS.plain (M' := fl [blk a0_7, blk a2_7, [b0_3], M]) (plain_int _) hf7_2
 clear hpk hsb hsb0 hpk2 hsb2 hst0 hsn hst
 have hpk : MS w7 [blk a2_7, [b0_3], M] := hms.pick [some 1, some 2, some 3] _ rfl
 have hsu : ∀ x ∈ fl [blk a2_7, [b0_3], M], x ∈ fl [blk a0_7, blk a2_7, [b0_3], M] := pick_sub [some 1, some 2, some 3] _ rfl
 replace hf3_2 := hf3_2.sub hsu
 replace hf7_1 := hf7_1.ro hsu (pick_out hms 0 rfl [some 1, some 2, some 3] [blk a2_7, [b0_3], M] rfl rfl)
 replace hf7_2 := hf7_2.sub hsu
 replace hms := hpk
 replace hfr : FR w.heap.size [blk a2_7, [b0_3]] := hfr.pick [some 1, some 2] _ rfl
 clear hpk hsu
 have hpk : MS w7 [[b0_3], M] := hms.pick [some 1, some 2] _ rfl
 have hsu : ∀ x ∈ fl [[b0_3], M], x ∈ fl [blk a2_7, [b0_3], M] := pick_sub [some 1, some 2] _ rfl
 replace hf3_2 := hf3_2.sub hsu
 replace hf7_1 := hf7_1.sub hsu
 replace hf7_2 := hf7_2.ro hsu (pick_out hms 0 rfl [some 1, some 2] [[b0_3], M] rfl rfl)
 replace hms := hpk
 replace hfr : FR w.heap.size [[b0_3]] := hfr.pick [some 1] _ rfl
 clear hpk hsu
 refine x_pure 5 [(18, .tuple #[.slice a0_7 (x6.1).length c0_7, .slice a2_7 (x6.2.1).length c2_7]), (21, .slice a0_7 (x6.1).length c0_7), (22, .slice a2_7 (x6.2.1).length c2_7), (4, .slice a0_7 (x6.1).length c0_7), (5, .slice a2_7 (x6.2.1).length c2_7)] _ _ _ (by kernel_rfl) ?_
 refine x_ek ?_
 refine c_sp ?_
 refine x_pure 2 [(24, .slice a0_7 (x6.1).length c0_7), (25, .slice a2_7 (x6.2.1).length c2_7)] _ _ _ (by kernel_rfl) ?_
 obtain ⟨x10, hx, h⟩ := bind_some h
 have hpk : MS w7 ([] ++ [[b0_3], M]) := hms.pick [some 0, some 1] _ rfl
 have hsb0 : ∀ x ∈ fl ([] ++ [[b0_3], M]), x ∈ fl [[b0_3], M] := pick_sub [some 0, some 1] _ rfl
 have hsb : ∀ x ∈ fl ([] ++ [(fl [[b0_3], M])]), x ∈ fl [[b0_3], M] := fun x hx => hsb0 x (fl_unfold x hx)
 have hcall := assign_Match_w a0_7 c0_7 x6.1 a2_7 c2_7 x6.2.1 _ w7 (fl [[b0_3], M]) (MS.fold (P := []) hpk) (hf7_1.sub hsb) (hf7_2.sub hsb) hx
 refine x_call 8 #[] #[] [.slice a0_7 (x6.1).length c0_7, .slice a2_7 (x6.2.1).length c2_7] _ rfl rfl rfl rfl hcall ?_
 rintro v w11 ⟨a0_11, c0_11, a2_11, c2_11, rfl, he11, hmn11, hfn11, hf11_1, hf11_2⟩
 clear hcall hx
 refine inl1 ?_
 have hpk2 : MS w7 ([] ++ [[b0_3], M]) := hms.pick [some 0, some 1] _ rfl
 have hsb2 : ∀ x ∈ fl ([] ++ [[b0_3], M]), x ∈ fl [[b0_3], M] := pick_sub [some 0, some 1] _ rfl
 have hst0 := Stp.call (LS := [[b0_3], M]) (res := [blk a0_11, blk a2_11]) (par := []) (R := [[b0_3], M]) he11 (fun b hb => hsb2 b (fl_left' (P := []) b hb)) hfn11 (NP.init _ _) (fun x hx => hsb2 x (fl_right' (P := []) x hx))
 have hsn : ∀ x ∈ fl [blk a0_11, blk a2_11, [b0_3], M], x ∈ fl ([blk a0_11, blk a2_11] ++ ([] ++ [[b0_3], M])) := pick_sub [some 0, some 1, some 2, some 3] _ rfl
 have hst := hst0.res hsn
 replace hf3_1 := he11.box hf3_1 ((MS.outs (P := []) hpk2 0 rfl) _ mem1)
 replace hf3_2 := hf3_2.step hst
 replace hf7_1 := hf7_1.step hst
 replace hf7_2 := hf7_2.step hst
 replace hms : MS w11 [blk a0_11, blk a2_11, [b0_3], M] := (MS.call (P := []) (R := [[b0_3], M]) (res := [blk a0_11, blk a2_11]) (par := []) hpk2 he11 hmn11 hfn11 (NP.init _ _)).pick [some 0, some 1, some 2, some 3] _ rfl
 have hfr2 : FR w.heap.size [blk a0_11, blk a2_11, [b0_3]] := (FR.cons (fun b hb => Nat.le_trans hev.size (hfn11.at 0 rfl b hb)) (FR.cons (fun b hb => Nat.le_trans hev.size (hfn11.at 1 rfl b hb)) (FR.cons (hfr.at 0 rfl) (FR.nil _))))
 replace hev := hev.ext he11
 replace hfr := hfr2
 clear hfr2
 replace hf11_1 := OwnS.plain (M' := fl [blk a0_11, blk a2_11, [b0_3], M]) (plain_int _) hf11_1
 replace hf11_2 := OwnS.plain (M' := fl [blk a0_11, blk a2_11, [b0_3], M]) (plain_int _) hf11_2
 clear hpk hsb hsb0 hpk2 hsb2 hst0 hsn hst
 have hpk : MS w11 [blk a2_11, [b0_3], M] := hms.pick [some 1, some 2, some 3] _ rfl
 have hsu : ∀ x ∈ fl [blk a2_11, [b0_3], M], x ∈ fl [blk a0_11, blk a2_11, [b0_3], M] := pick_sub [some 1, some 2, some 3] _ rfl
 replace hf3_2 := hf3_2.sub hsu
 replace hf7_1 := hf7_1.sub hsu
 replace hf7_2 := hf7_2.sub hsu
 replace hf11_1 := hf11_1.ro hsu (pick_out hms 0 rfl [some 1, some 2, some 3] [blk a2_11, [b0_3], M] rfl rfl)
 replace hf11_2 := hf11_2.sub hsu
 replace hms := hpk
 replace hfr : FR w.heap.size [blk a2_11, [b0_3]] := hfr.pick [some 1, some 2] _ rfl
 clear hpk hsu
 have hpk : MS w11 [[b0_3], M] := hms.pick [some 1, some 2] _ rfl
 have hsu : ∀ x ∈ fl [[b0_3], M], x ∈ fl [blk a2_11, [b0_3], M] := pick_sub [some 1, some 2] _ rfl
 replace hf3_2 := hf3_2.sub hsu
 replace hf7_1 := hf7_1.sub hsu
 replace hf7_2 := hf7_2.sub hsu
 replace hf11_1 := hf11_1.sub hsu
 replace hf11_2 := hf11_2.ro hsu (pick_out hms 0 rfl [some 1, some 2] [[b0_3], M] rfl rfl)
 replace hms := hpk
 replace hfr : FR w.heap.size [[b0_3]] := hfr.pick [some 1] _ rfl
 clear hpk hsu
 refine x_pure 7 [(23, .tuple #[.slice a0_11 (x10.1).length c0_11, .slice a2_11 (x10.2.1).length c2_11, Vi x10.2.2]), (27, .slice a0_11 (x10.1).length c0_11), (28, .slice a2_11 (x10.2.1).length c2_11), (29, Vi x10.2.2), (6, .slice a0_11 (x10.1).length c0_11), (7, .slice a2_11 (x10.2.1).length c2_11), (8, Vi x10.2.2)] _ _ _ (by kernel_rfl) ?_
 refine x_ek ?_
 refine c_norm [(3, Vp b0_3 0), (4, .slice a0_7 (x6.1).length c0_7), (5, .slice a2_7 (x6.2.1).length c2_7), (8, Vi x10.2.2)] ⟨rfl, rfl, rfl, rfl, trivial⟩ (fun J => ?_)
 refine c_sp ?_
 refine x_buildSlice (vs := []) #[] 3 rfl rfl rfl (by kernel_rfl) (fun b14 w14 hq14 hb14 he14 hz14 => ?_)
 refine inl1 ?_
 obtain ⟨a14, ea14⟩ : ∃ a, a = some (⟨b14, 0, none⟩ : Addr) := ⟨_, rfl⟩
 have hw14 : ∀ M, OwnS (eInt .i64) 3 w14 M a14 0 ([] : List Int) := fun M => ea14 ▸ own_of_box hb14 (by decide) rfl rfl (cells_at (cs := []) CellsOf.nil)
 have hn14 : ∀ b ∈ blk a14, w11.heap.size ≤ b ∧ b < w14.heap.size := by subst ea14; intro b hb; simp only [blk, List.mem_singleton] at hb; subst hb; exact ⟨Nat.le_of_eq hq14.symm, lt_of_heap hb14⟩
 clear hb14
 have hst := Stp.push (ls := [[b0_3], M]) (l := blk a14) he14 (fun _ h => by cases h) (fun b hb => (hn14 b hb).1)
 replace hf3_1 := he14.box hf3_1 nn
 replace hf3_2 := hf3_2.step hst
 replace hf7_1 := hf7_1.step hst
 replace hf7_2 := hf7_2.step hst
 replace hms := hms.push he14 hn14
 replace hfr := hfr.push (fun b hb => Nat.le_trans hev.size (hn14 b hb).1)
 replace hev := hev.ext he14
 have ho14 := hw14 (fl [blk a14, [b0_3], M])
 clear hw14
 rw [← ea14]
 refine x_pure 1 [(31, .slice a0_7 (x6.1).length c0_7)] _ _ _ (by kernel_rfl) ?_
 have hg := guard_l h
 replace h := guard_r h
 obtain ⟨a16, c16, w16, hr16, he16, hn16, hm16, hw16⟩ := own_appendN tel22 22 ho14 (mem_flat 0 rfl) hf7_1 hg
 refine x_builtin (vs := [.slice a14 (([] : List Int)).length 0, .slice a0_7 (x6.1).length c0_7]) _ w16 rfl rfl rfl rfl (run_value _ _ _ _ hr16) ?_
 refine inl1 ?_
 have hst : Stp (fl [blk a14, [b0_3], M]) w14 (fl [blk a16, [b0_3], M]) w16 := Stp.upd 0 he16 rfl (fun b hb => (hn16 b hb).1)
 replace hf3_1 := he16.box hf3_1 (hms.apart 1 0 rfl rfl rfl _ mem1)
 replace hf3_2 := hf3_2.step hst
 replace hf7_1 := hf7_1.step hst
 replace hf7_2 := hf7_2.step hst
 replace hms : MS w16 [blk a16, [b0_3], M] := hms.upd 0 he16 rfl hn16
 have hfr2 : FR w.heap.size [blk a16, [b0_3]] := hfr.upd 0 rfl hev.size (fun b hb => (hn16 b hb).1)
 replace hev := hev.then he16 (fun b hb => .inr (hfr.at 0 rfl b hb))
 replace hfr := hfr2
 clear hfr2
 replace ho14 := hw16 (fl [blk a16, [b0_3], M]) hst.new
 clear hw16
 refine x_buildSlice (vs := []) #[] 3 rfl rfl rfl (by kernel_rfl) (fun b17 w17 hq17 hb17 he17 hz17 => ?_)
 refine inl1 ?_
 obtain ⟨a17, ea17⟩ : ∃ a, a = some (⟨b17, 0, none⟩ : Addr) := ⟨_, rfl⟩
 have hw17 : ∀ M, OwnS (eInt .i64) 3 w17 M a17 0 ([] : List Int) := fun M => ea17 ▸ own_of_box hb17 (by decide) rfl rfl (cells_at (cs := []) CellsOf.nil)
 have hn17 : ∀ b ∈ blk a17, w16.heap.size ≤ b ∧ b < w17.heap.size := by subst ea17; intro b hb; simp only [blk, List.mem_singleton] at hb; subst hb; exact ⟨Nat.le_of_eq hq17.symm, lt_of_heap hb17⟩
 clear hb17
 have hst := Stp.push (ls := [blk a16, [b0_3], M]) (l := blk a17) he17 (fun _ h => by cases h) (fun b hb => (hn17 b hb).1)
 replace hf3_1 := he17.box hf3_1 nn
 replace hf3_2 := hf3_2.step hst
 replace hf7_1 := hf7_1.step hst
 replace hf7_2 := hf7_2.step hst
 replace ho14 := ho14.step hst he17 nn2
 replace hms := hms.push he17 hn17
 replace hfr := hfr.push (fun b hb => Nat.le_trans hev.size (hn17 b hb).1)
 replace hev := hev.ext he17
 have ho17 := hw17 (fl [blk a17, blk a16, [b0_3], M])
 clear hw17
 rw [← ea17]
 refine x_pure 1 [(34, .slice a2_7 (x6.2.1).length c2_7)] _ _ _ (by kernel_rfl) ?_
 have hg := guard_l h
 replace h := guard_r h
 obtain ⟨a19, c19, w19, hr19, he19, hn19, hm19, hw19⟩ := own_appendN tel22 22 ho17 (mem_flat 0 rfl) hf7_2 hg
 refine x_builtin (vs := [.slice a17 (([] : List Int)).length 0, .slice a2_7 (x6.2.1).length c2_7]) _ w19 rfl rfl rfl rfl (run_value _ _ _ _ hr19) ?_
 refine inl1 ?_
 have hst : Stp (fl [blk a17, blk a16, [b0_3], M]) w17 (fl [blk a19, blk a16, [b0_3], M]) w19 := Stp.upd 0 he19 rfl (fun b hb => (hn19 b hb).1)
 replace hf3_1 := he19.box hf3_1 (hms.apart 2 0 rfl rfl rfl _ mem1)
 replace hf3_2 := hf3_2.step hst
 replace hf7_1 := hf7_1.step hst
 replace hf7_2 := hf7_2.step hst
 replace ho14 := ho14.step hst he19 (hms.apart 1 0 rfl rfl rfl)
 replace hms : MS w19 [blk a19, blk a16, [b0_3], M] := hms.upd 0 he19 rfl hn19
 have hfr2 : FR w.heap.size [blk a19, blk a16, [b0_3]] := hfr.upd 0 rfl hev.size (fun b hb => (hn19 b hb).1)
 replace hev := hev.then he19 (fun b hb => .inr (hfr.at 0 rfl b hb))
 replace hfr := hfr2
 clear hfr2
 replace ho17 := hw19 (fl [blk a19, blk a16, [b0_3], M]) hst.new
 clear hw19
 refine x_pure 2 [(9, .slice a16 ((([] : List Int) ++ x6.1)).length c16), (10, .slice a19 ((([] : List Int) ++ x6.2.1)).length c19)] _ _ _ (by kernel_rfl) ?_
 refine x_ek ?_
 refine c_seq ?_
 refine c_sp ?_
 refine x_pure 1 [(36, .slice a16 ((([] : List Int) ++ x6.1)).length c16)] _ _ _ (by kernel_rfl) ?_
 refine x_len (vs := [.slice a16 ((([] : List Int) ++ x6.1)).length c16]) (Vi (((([] : List Int) ++ x6.1)).length : Int)) rfl rfl rfl (reads_len tsl22 _ _ _ _ _) ?_
 refine x_pure 1 [(38, Vi 0)] _ _ _ (by kernel_rfl) ?_
 refine x_ek ?_
 refine c_block ?_
 have hpk : MS w19 [[b0_3], blk a16, blk a19, M] := hms.pick [some 2, some 1, some 0, some 3] _ rfl
 have hsu : ∀ x ∈ fl [[b0_3], blk a16, blk a19, M], x ∈ fl [blk a19, blk a16, [b0_3], M] := pick_sub [some 2, some 1, some 0, some 3] _ rfl
 replace hf3_2 := hf3_2.sub hsu
 replace ho14 := ho14.sub hsu
 replace ho17 := ho17.sub hsu
 replace hms := hpk
 replace hfr : FR w.heap.size [[b0_3], blk a16, blk a19] := hfr.pick [some 2, some 1, some 0] _ rfl
 clear hpk hsu
 obtain ⟨d21, hd21, h21⟩ := bind_some h
 obtain ⟨m21, hd21⟩ := loop_some hd21
 refine c_loop (loop_rule hmx (σ := Nat × Int × (List Int) × Int) (fun s => match s with | (_, e4_l21_1, d15_l21, t38__s38_l21) => [(3, Vp b0_3 0), (8, Vi x10.2.2), (9, .slice a16 (d15_l21).length c16), (10, .slice a19 ((([] : List Int) ++ x6.2.1)).length c19), (37, Vi (((([] : List Int) ++ x6.1)).length : Int)), (38, Vi t38__s38_l21)]) (fun s w' => match s with | (m, e4_l21_1, d15_l21, t38__s38_l21) => loopN (law16_AssignMonotone_L21 x2 x6) m (e4_l21_1, d15_l21, t38__s38_l21) = some d21 ∧ Ev [] w w' ∧ MS w' [[b0_3], blk a16, blk a19, M] ∧ FR w.heap.size [[b0_3], blk a16, blk a19] ∧ SlR (eInt .i64) w' (fl [[b0_3], blk a16, blk a19, M]) a1_3 c1_3 x2.1 ∧ w'.heap[b0_3]? = some (.cells #[.slice a1_3 (x2.1).length c1_3, Vi e4_l21_1] 46 (0, 0)) ∧ OwnS (eInt .i64) 3 w' (fl [[b0_3], blk a16, blk a19, M]) a16 c16 d15_l21 ∧ OwnS (eInt .i64) 3 w' (fl [[b0_3], blk a16, blk a19, M]) a19 c19 (([] : List Int) ++ x6.2.1)) (fun s => s.1) (m21, x6.2.2, (([] : List Int) ++ x6.1), 0) ⟨rfl, rfl, rfl, rfl, rfl, rfl, trivial⟩ ⟨hd21, hev, hms, hfr, hf3_2, hf3_1, ho14, ho17⟩ ?_)
 rintro ⟨m21, e4_l21_1, d15_l21, t38__s38_l21⟩ J wl21 ⟨hn21, hev, hms, hfr, hf3_2, hf3_1, ho14, ho17⟩
 rcases m21 with _ | m21
 · exact (loopN_zero hn21).elim
 obtain ⟨t21, h, hn21⟩ := bind_some hn21
 refine c_sp ?_
 refine x_pure 1 [(39, .bool (decide (t38__s38_l21 < (((([] : List Int) ++ x6.1)).length : Int))))] _ _ _ (by kernel_rfl) ?_
 refine x_ek ?_
 refine c_norm [(3, Vp b0_3 0), (8, Vi x10.2.2), (9, .slice a16 (d15_l21).length c16), (10, .slice a19 ((([] : List Int) ++ x6.2.1)).length c19), (37, Vi (((([] : List Int) ++ x6.1)).length : Int)), (38, Vi t38__s38_l21), (39, .bool (decide (t38__s38_l21 < (((([] : List Int) ++ x6.1)).length : Int))))] ⟨rfl, rfl, rfl, rfl, rfl, rfl, rfl, trivial⟩ (fun J => ?_)
 refine c_seq ?_
 refine c_cond (decide (t38__s38_l21 < (((([] : List Int) ++ x6.1)).length : Int))) rfl (fun hb => ?_) (fun hb => ?_)
 · replace h := ite_t hb h
   refine c_skip ?_
   refine k_then ?_
   refine c_seq ?_
   refine c_block ?_
   refine c_sp ?_
   refine x_pure 2 [(40, Vi t38__s38_l21), (11, Vi t38__s38_l21)] _ _ _ (by kernel_rfl) ?_
   refine x_ek ?_
   refine c_drawn [b0_3] [(0, false), (1, false), (2, false), (3, false), (4, false), (5, false), (6, false), (7, false), (8, false), (9, true), (10, true), (11, true), (12, true)] _ (by kernel_rfl) rfl ?_
   have hst := Stp.ext (ls := [[b0_3], blk a16, blk a19, M]) (Ev.drew wl21)
   replace hf3_1 := (Ev.drew wl21).box hf3_1 nn
   replace hf3_2 := hf3_2.step hst
   replace ho14 := ho14.step hst (Ev.drew wl21) nn2
   replace ho17 := ho17.step hst (Ev.drew wl21) nn2
   replace hms := hms.ev (Ev.drew wl21)
   replace hev := hev.ext (Ev.drew wl21)
   refine x_pure 4 [(41, .slice a16 (d15_l21).length c16), (42, Vi t38__s38_l21), (43, .slice a16 (d15_l21).length c16), (44, Vi t38__s38_l21)] _ _ _ (by kernel_rfl) ?_
   obtain ⟨x23, hx23, h⟩ := bind_some h
   obtain ⟨g23, cs23, ha23, hr23, hc23, hR⟩ := own_index (Mo := [b0_3]) tsl22 ho14 hx23
   obtain rfl := hR
   refine x_indexAddr (xv := .slice a16 (d15_l21).length c16) (yv := Vi t38__s38_l21) (.pointer (some ⟨g23, (Int.toNat t38__s38_l21) * (eInt .i64).n, none⟩)) rfl rfl rfl rfl hr23 ?_
   refine x_load (xv := .pointer (some ⟨g23, (Int.toNat t38__s38_l21) * (eInt .i64).n, none⟩)) (Vi x23) rfl rfl rfl (reads_cell0 tcell3 (CellsAt.away hc23 ((hms.apart 1 0 rfl rfl rfl) _ (blk_mem ha23))) (fun b hb => hb)) ?_
   refine x_pure 1 [(47, Vp b0_3 0)] _ _ _ (by kernel_rfl) ?_
   refine x_buildSlice (vs := [(0, Vi 0), (1, Vi 0), (2, Vi 1), (3, Vi 4)]) #[Vi 0, Vi 0, Vi 1, Vi 4] 3 rfl rfl rfl (by kernel_rfl) (fun b26 w26 hq26 hb26 he26 hz26 => ?_)
   refine ⟨.inr (he26.nil), ?_⟩
   have hms0 := hms
   have hst := Stp.ext (ls := [[b0_3], blk a16, blk a19, M]) he26
   replace hf3_1 := he26.box hf3_1 nn
   replace hf3_2 := hf3_2.step hst
   replace ho14 := ho14.step hst he26 nn2
   replace ho17 := ho17.step hst he26 nn2
   replace hms := hms.ev he26
   replace hev := hev.ext he26
   have hs26 : SlR (eInt .i64) w26 (fl [[b0_3], blk a16, blk a19, M]) (Ad b26 0) 4 ([0, 0, 1, 4]) := ro_of_box hms0 hq26 hb26 rfl rfl (cells_at (cs := [Vi 0, Vi 0, Vi 1, Vi 4]) (CellsOf.cons (c := [Vi 0]) rfl (CellsOf.cons (c := [Vi 0]) rfl (CellsOf.cons (c := [Vi 1]) rfl (CellsOf.cons (c := [Vi 4]) rfl CellsOf.nil)))))
   clear hb26 hms0
   obtain ⟨x28, hx, h⟩ := bind_some h
   have hpk : MS w26 ([[b0_3]] ++ [blk a16, blk a19, M]) := hms.pick [some 0, some 1, some 2, some 3] _ rfl
   have hsb0 : ∀ x ∈ fl ([[b0_3]] ++ [blk a16, blk a19, M]), x ∈ fl [[b0_3], blk a16, blk a19, M] := pick_sub [some 0, some 1, some 2, some 3] _ rfl
   have hsb : ∀ x ∈ fl ([[b0_3]] ++ [(fl [blk a16, blk a19, M])]), x ∈ fl [[b0_3], blk a16, blk a19, M] := fun x hx => hsb0 x (fl_unfold x hx)
   have hcall := gen_Maker_Pick_w b0_3 a1_3 c1_3 x2.1 e4_l21_1 (Ad b26 0) 4 ([0, 0, 1, 4]) _ w26 (fl [blk a16, blk a19, M]) (hpk.fold (P := [[b0_3]])) (hf3_2.sub hsb) hf3_1 (hs26.sub hsb) hx
   refine x_call 17 #[] #[] [Vp b0_3 0, .slice (Ad b26 0) ([0, 0, 1, 4]).length 4] _ rfl rfl rfl rfl hcall ?_
   rintro v w29 ⟨rfl, he29, hp29_0⟩
   clear hcall hx
   refine ⟨.inr he29, ?_⟩
   have hpk2 : MS w26 ([[b0_3]] ++ [blk a16, blk a19, M]) := hms.pick [some 0, some 1, some 2, some 3] _ rfl
   have hsb2 : ∀ x ∈ fl ([[b0_3]] ++ [blk a16, blk a19, M]), x ∈ fl [[b0_3], blk a16, blk a19, M] := pick_sub [some 0, some 1, some 2, some 3] _ rfl
   have hst0 := Stp.call (LS := [[b0_3], blk a16, blk a19, M]) (res := []) (par := [[b0_3]]) (R := [blk a16, blk a19, M]) he29 (fun b hb => hsb2 b (fl_left' (P := [[b0_3]]) b hb)) (FR.nil _) (NP.init _ _) (fun x hx => hsb2 x (fl_right' (P := [[b0_3]]) x hx))
   have hsn : ∀ x ∈ fl [[b0_3], blk a16, blk a19, M], x ∈ fl ([] ++ ([[b0_3]] ++ [blk a16, blk a19, M])) := pick_sub [some 0, some 1, some 2, some 3] _ rfl
   have hst := hst0.res hsn
   replace hf3_2 := hf3_2.step hst
   replace ho14 := ho14.step hst he29 (MS.outs (P := [[b0_3]]) hpk2 0 rfl)
   replace ho17 := ho17.step hst he29 (MS.outs (P := [[b0_3]]) hpk2 1 rfl)
   replace hs26 := hs26.step hst
   replace hms := hms.ev he29
   have hPf : ∀ b ∈ fl [[b0_3]], w.heap.size ≤ b := FR.mem (ls := [[b0_3]]) (hfr.pick [some 0] _ rfl)
   replace hev := hev.then he29 (fun b hb => .inr (hPf b hb))
   replace hf3_1 := hp29_0
   clear hpk hsb hsb0 hpk2 hsb2 hst0 hsn hst
   refine x_pure 1 [(50, Vi (IntKind.i64.wrap (x23 - x28.1)))] _ _ _ (by kernel_rfl) ?_
   refine x_max (vs := [Vi 0, Vi (IntKind.i64.wrap (x23 - x28.1))]) (Vi (if (IntKind.i64.wrap (x23 - x28.1)) > 0 then (IntKind.i64.wrap (x23 - x28.1)) else 0)) rfl rfl rfl (fun _ _ => rfl) ?_
   obtain ⟨x30, hx30, h⟩ := bind_some h
   obtain ⟨g30, cs30, ha30, hr30, hc30, hR⟩ := own_index (Mo := []) tsl22 ho14 hx30
   obtain rfl := hR
   refine x_indexAddr (xv := .slice a16 (d15_l21).length c16) (yv := Vi t38__s38_l21) (.pointer (some ⟨g30, (Int.toNat t38__s38_l21) * (eInt .i64).n, none⟩)) rfl rfl rfl rfl hr30 ?_
   have hxs32_24 := hx23
   obtain ⟨w34, hr34, he34, ho34⟩ := own_storeE ha30 (y := if (IntKind.i64.wrap (x23 - x28.1)) > 0 then (IntKind.i64.wrap (x23 - x28.1)) else 0) 0 (Vi (if (IntKind.i64.wrap (x23 - x28.1)) > 0 then (IntKind.i64.wrap (x23 - x28.1)) else 0)) tcell3 ho14 (mem_flat 1 rfl) hx30 rfl rfl (fun _ _ _ hR => set_int hR)
   refine x_store w34 (xv := .pointer (some ⟨g30, (Int.toNat t38__s38_l21) * (eInt .i64).n, none⟩)) (yv := Vi (if (IntKind.i64.wrap (x23 - x28.1)) > 0 then (IntKind.i64.wrap (x23 - x28.1)) else 0)) rfl rfl rfl rfl hr34 ?_
   refine inl1 ?_
   have hst := Stp.ev' (ls := [[b0_3], blk a16, blk a19, M]) he34 (mem_flat 1 rfl)
   replace hf3_1 := he34.box hf3_1 (hms.apart 0 1 rfl rfl rfl _ mem1)
   replace hf3_2 := hf3_2.step hst
   replace ho17 := ho17.step hst he34 (hms.apart 2 1 rfl rfl rfl)
   replace hs26 := hs26.step hst
   replace hms := hms.ev he34
   replace hev := hev.then he34 (fun b hb => .inr (hfr.at 1 rfl b hb))
   replace ho14 := ho34
   have hsl : (Value.slice a16 (d15_l21).length c16) = (Value.slice a16 ((d15_l21.set (Int.toNat t38__s38_l21) (if (IntKind.i64.wrap (x23 - x28.1)) > 0 then (IntKind.i64.wrap (x23 - x28.1)) else 0))).length c16) := by first | (rw [List.length_set]; done) | simp only [List.length_set]
   try rw [hsl]
   clear hsl
   obtain ⟨_, hxs32_24⟩ : ∃ y, idx (d15_l21.set (Int.toNat t38__s38_l21) (if (IntKind.i64.wrap (x23 - x28.1)) > 0 then (IntKind.i64.wrap (x23 - x28.1)) else 0)) t38__s38_l21 = some y := idx_set_any hxs32_24 _ _
   refine x_end rfl ?_
   refine k_block ?_
   refine k_then ?_
   refine c_norm [(3, Vp b0_3 0), (8, Vi x10.2.2), (9, .slice a16 ((d15_l21.set (Int.toNat t38__s38_l21) (if (IntKind.i64.wrap (x23 - x28.1)) > 0 then (IntKind.i64.wrap (x23 - x28.1)) else 0))).length c16), (10, .slice a19 ((([] : List Int) ++ x6.2.1)).length c19), (37, Vi (((([] : List Int) ++ x6.1)).length : Int)), (38, Vi t38__s38_l21)] ⟨rfl, rfl, rfl, rfl, rfl, rfl, trivial⟩ (fun J => ?_)
   refine c_plain ?_
   refine x_pure 2 [(53, Vi (IntKind.i64.wrap (t38__s38_l21 + 1))), (38, Vi (IntKind.i64.wrap (t38__s38_l21 + 1)))] _ _ _ (by kernel_rfl) ?_
   refine x_end rfl ?_
   have hx := some_inj h
   subst hx
   exact k_then ⟨(m21, x28.2, (d15_l21.set (Int.toNat t38__s38_l21) (if (IntKind.i64.wrap (x23 - x28.1)) > 0 then (IntKind.i64.wrap (x23 - x28.1)) else 0)), IntKind.i64.wrap (t38__s38_l21 + 1)), ⟨rfl, rfl, rfl, rfl, rfl, rfl, trivial⟩, ⟨hn21, hev, hms, hfr, hf3_2, hf3_1, ho14, ho17⟩, Nat.lt_succ_self _⟩
 replace h := ite_f hb h
 refine c_exit ?_
 refine k_then_exit ?_
 have hx := some_inj h
 subst hx
 have hy := some_inj hn21
 subst hy
 replace h := h21
 refine k_then_exit ?_
 refine k_block_in ?_
 refine k_then ?_
 refine c_norm [(3, Vp b0_3 0), (8, Vi x10.2.2), (9, .slice a16 (d15_l21).length c16), (10, .slice a19 ((([] : List Int) ++ x6.2.1)).length c19)] ⟨rfl, rfl, rfl, rfl, trivial⟩ (fun J => ?_)
 refine c_seq ?_
 refine c_sp ?_
 refine x_pure 1 [(54, .slice a19 ((([] : List Int) ++ x6.2.1)).length c19)] _ _ _ (by kernel_rfl) ?_
 refine x_len (vs := [.slice a19 ((([] : List Int) ++ x6.2.1)).length c19]) (Vi (((([] : List Int) ++ x6.2.1)).length : Int)) rfl rfl rfl (reads_len tsl22 _ _ _ _ _) ?_
 refine x_pure 1 [(56, Vi 0)] _ _ _ (by kernel_rfl) ?_
 refine x_ek ?_
 refine c_block ?_
 obtain ⟨d36, hd36, h36⟩ := bind_some h
 obtain ⟨m36, hd36⟩ := loop_some hd36
 refine c_loop (loop_rule hmx (σ := Nat × Int × (List Int) × Int) (fun s => match s with | (_, e4_l36_1, d18_l36, t56__s56_l36) => [(3, Vp b0_3 0), (8, Vi x10.2.2), (9, .slice a16 (d15_l21).length c16), (10, .slice a19 (d18_l36).length c19), (55, Vi (((([] : List Int) ++ x6.2.1)).length : Int)), (56, Vi t56__s56_l36)]) (fun s w' => match s with | (m, e4_l36_1, d18_l36, t56__s56_l36) => loopN (law16_AssignMonotone_L36 x2 x6) m (e4_l36_1, d18_l36, t56__s56_l36) = some d36 ∧ Ev [] w w' ∧ MS w' [[b0_3], blk a16, blk a19, M] ∧ FR w.heap.size [[b0_3], blk a16, blk a19] ∧ SlR (eInt .i64) w' (fl [[b0_3], blk a16, blk a19, M]) a1_3 c1_3 x2.1 ∧ w'.heap[b0_3]? = some (.cells #[.slice a1_3 (x2.1).length c1_3, Vi e4_l36_1] 46 (0, 0)) ∧ OwnS (eInt .i64) 3 w' (fl [[b0_3], blk a16, blk a19, M]) a16 c16 d15_l21 ∧ OwnS (eInt .i64) 3 w' (fl [[b0_3], blk a16, blk a19, M]) a19 c19 d18_l36) (fun s => s.1) (m36, e4_l21_1, (([] : List Int) ++ x6.2.1), 0) ⟨rfl, rfl, rfl, rfl, rfl, rfl, trivial⟩ ⟨hd36, hev, hms, hfr, hf3_2, hf3_1, ho14, ho17⟩ ?_)
 rintro ⟨m36, e4_l36_1, d18_l36, t56__s56_l36⟩ J wl36 ⟨hn36, hev, hms, hfr, hf3_2, hf3_1, ho14, ho17⟩
 rcases m36 with _ | m36
 · exact (loopN_zero hn36).elim
 obtain ⟨t36, h, hn36⟩ := bind_some hn36
 refine c_sp ?_
 refine x_pure 1 [(57, .bool (decide (t56__s56_l36 < (((([] : List Int) ++ x6.2.1)).length : Int))))] _ _ _ (by kernel_rfl) ?_
 refine x_ek ?_
 refine c_norm [(3, Vp b0_3 0), (8, Vi x10.2.2), (9, .slice a16 (d15_l21).length c16), (10, .slice a19 (d18_l36).length c19), (55, Vi (((([] : List Int) ++ x6.2.1)).length : Int)), (56, Vi t56__s56_l36), (57, .bool (decide (t56__s56_l36 < (((([] : List Int) ++ x6.2.1)).length : Int))))] ⟨rfl, rfl, rfl, rfl, rfl, rfl, rfl, trivial⟩ (fun J => ?_)
 refine c_seq ?_
 refine c_cond (decide (t56__s56_l36 < (((([] : List Int) ++ x6.2.1)).length : Int))) rfl (fun hb => ?_) (fun hb => ?_)
 · replace h := ite_t hb h
   refine c_skip ?_
   refine k_then ?_
   refine c_seq ?_
   refine c_block ?_
   refine c_sp ?_
   refine x_pure 2 [(58, Vi t56__s56_l36), (12, Vi t56__s56_l36)] _ _ _ (by kernel_rfl) ?_
   refine x_ek ?_
   refine c_drawn [b0_3] [(0, false), (1, false), (2, false), (3, false), (4, false), (5, false), (6, false), (7, true), (8, true), (9, true)] _ (by kernel_rfl) rfl ?_
   have hst := Stp.ext (ls := [[b0_3], blk a16, blk a19, M]) (Ev.drew wl36)
   replace hf3_1 := (Ev.drew wl36).box hf3_1 nn
   replace hf3_2 := hf3_2.step hst
   replace ho14 := ho14.step hst (Ev.drew wl36) nn2
   replace ho17 := ho17.step hst (Ev.drew wl36) nn2
   replace hms := hms.ev (Ev.drew wl36)
   replace hev := hev.ext (Ev.drew wl36)
   refine x_pure 2 [(59, .slice a19 (d18_l36).length c19), (60, Vi t56__s56_l36)] _ _ _ (by kernel_rfl) ?_
   obtain ⟨x38, hx38, h⟩ := bind_some h
   obtain ⟨g38, cs38, ha38, hr38, hc38, hR⟩ := own_index (Mo := [b0_3]) tsl22 ho17 hx38
   obtain rfl := hR
   refine x_indexAddr (xv := .slice a19 (d18_l36).length c19) (yv := Vi t56__s56_l36) (.pointer (some ⟨g38, (Int.toNat t56__s56_l36) * (eInt .i64).n, none⟩)) rfl rfl rfl rfl hr38 ?_
   refine x_load (xv := .pointer (some ⟨g38, (Int.toNat t56__s56_l36) * (eInt .i64).n, none⟩)) (Vi x38) rfl rfl rfl (reads_cell0 tcell3 (CellsAt.away hc38 ((hms.apart 2 0 rfl rfl rfl) _ (blk_mem ha38))) (fun b hb => hb)) ?_
   refine x_pure 1 [(63, Vp b0_3 0)] _ _ _ (by kernel_rfl) ?_
   refine x_buildSlice (vs := [(0, Vi 0), (1, Vi 0), (2, Vi 1), (3, Vi 4)]) #[Vi 0, Vi 0, Vi 1, Vi 4] 3 rfl rfl rfl (by kernel_rfl) (fun b41 w41 hq41 hb41 he41 hz41 => ?_)
   refine ⟨.inr (he41.nil), ?_⟩
   have hms0 := hms
   have hst := Stp.ext (ls := [[b0_3], blk a16, blk a19, M]) he41
   replace hf3_1 := he41.box hf3_1 nn
   replace hf3_2 := hf3_2.step hst
   replace ho14 := ho14.step hst he41 nn2
   replace ho17 := ho17.step hst he41 nn2
   replace hms := hms.ev he41
   replace hev := hev.ext he41
   have hs41 : SlR (eInt .i64) w41 (fl [[b0_3], blk a16, blk a19, M]) (Ad b41 0) 4 ([0, 0, 1, 4]) := ro_of_box hms0 hq41 hb41 rfl rfl (cells_at (cs := [Vi 0, Vi 0, Vi 1, Vi 4]) (CellsOf.cons (c := [Vi 0]) rfl (CellsOf.cons (c := [Vi 0]) rfl (CellsOf.cons (c := [Vi 1]) rfl (CellsOf.cons (c := [Vi 4]) rfl CellsOf.nil)))))
   clear hb41 hms0
   obtain ⟨x43, hx, h⟩ := bind_some h
   have hpk : MS w41 ([[b0_3]] ++ [blk a16, blk a19, M]) := hms.pick [some 0, some 1, some 2, some 3] _ rfl
   have hsb0 : ∀ x ∈ fl ([[b0_3]] ++ [blk a16, blk a19, M]), x ∈ fl [[b0_3], blk a16, blk a19, M] := pick_sub [some 0, some 1, some 2, some 3] _ rfl
   have hsb : ∀ x ∈ fl ([[b0_3]] ++ [(fl [blk a16, blk a19, M])]), x ∈ fl [[b0_3], blk a16, blk a19, M] := fun x hx => hsb0 x (fl_unfold x hx)
   have hcall := gen_Maker_Pick_w b0_3 a1_3 c1_3 x2.1 e4_l36_1 (Ad b41 0) 4 ([0, 0, 1, 4]) _ w41 (fl [blk a16, blk a19, M]) (hpk.fold (P := [[b0_3]])) (hf3_2.sub hsb) hf3_1 (hs41.sub hsb) hx
   refine x_call 17 #[] #[] [Vp b0_3 0, .slice (Ad b41 0) ([0, 0, 1, 4]).length 4] _ rfl rfl rfl rfl hcall ?_
   rintro v w44 ⟨rfl, he44, hp44_0⟩
   clear hcall hx
   refine ⟨.inr he44, ?_⟩
   have hpk2 : MS w41 ([[b0_3]] ++ [blk a16, blk a19, M]) := hms.pick [some 0, some 1, some 2, some 3] _ rfl
   have hsb2 : ∀ x ∈ fl ([[b0_3]] ++ [blk a16, blk a19, M]), x ∈ fl [[b0_3], blk a16, blk a19, M] := pick_sub [some 0, some 1, some 2, some 3] _ rfl
   have hst0 := Stp.call (LS := [[b0_3], blk a16, blk a19, M]) (res := []) (par := [[b0_3]]) (R := [blk a16, blk a19, M]) he44 (fun b hb => hsb2 b (fl_left' (P := [[b0_3]]) b hb)) (FR.nil _) (NP.init _ _) (fun x hx => hsb2 x (fl_right' (P := [[b0_3]]) x hx))
   have hsn : ∀ x ∈ fl [[b0_3], blk a16, blk a19, M], x ∈ fl ([] ++ ([[b0_3]] ++ [blk a16, blk a19, M])) := pick_sub [some 0, some 1, some 2, some 3] _ rfl
   have hst := hst0.res hsn
   replace hf3_2 := hf3_2.step hst
   replace ho14 := ho14.step hst he44 (MS.outs (P := [[b0_3]]) hpk2 0 rfl)
   replace ho17 := ho17.step hst he44 (MS.outs (P := [[b0_3]]) hpk2 1 rfl)
   replace hs41 := hs41.step hst
   replace hms := hms.ev he44
   have hPf : ∀ b ∈ fl [[b0_3]], w.heap.size ≤ b := FR.mem (ls := [[b0_3]]) (hfr.pick [some 0] _ rfl)
   replace hev := hev.then he44 (fun b hb => .inr (hPf b hb))
   replace hf3_1 := hp44_0
   clear hpk hsb hsb0 hpk2 hsb2 hst0 hsn hst
   refine x_pure 1 [(66, Vi (IntKind.i64.wrap (x38 + x43.1)))] _ _ _ (by kernel_rfl) ?_
   obtain ⟨x45, hx45, h⟩ := bind_some h
   obtain ⟨g45, cs45, ha45, hr45, hc45, hR⟩ := own_index (Mo := []) tsl22 ho17 hx45
   obtain rfl := hR
   refine x_indexAddr (xv := .slice a19 (d18_l36).length c19) (yv := Vi t56__s56_l36) (.pointer (some ⟨g45, (Int.toNat t56__s56_l36) * (eInt .i64).n, none⟩)) rfl rfl rfl rfl hr45 ?_
   have hxs47_39 := hx38
   obtain ⟨w49, hr49, he49, ho49⟩ := own_storeE ha45 (y := IntKind.i64.wrap (x38 + x43.1)) 0 (Vi (IntKind.i64.wrap (x38 + x43.1))) tcell3 ho17 (mem_flat 2 rfl) hx45 rfl rfl (fun _ _ _ hR => set_int hR)
   refine x_store w49 (xv := .pointer (some ⟨g45, (Int.toNat t56__s56_l36) * (eInt .i64).n, none⟩)) (yv := Vi (IntKind.i64.wrap (x38 + x43.1))) rfl rfl rfl rfl hr49 ?_
   refine inl1 ?_
   have hst := Stp.ev' (ls := [[b0_3], blk a16, blk a19, M]) he49 (mem_flat 2 rfl)
   replace hf3_1 := he49.box hf3_1 (hms.apart 0 2 rfl rfl rfl _ mem1)
   replace hf3_2 := hf3_2.step hst
   replace ho14 := ho14.step hst he49 (hms.apart 1 2 rfl rfl rfl)
   replace hs41 := hs41.step hst
   replace hms := hms.ev he49
   replace hev := hev.then he49 (fun b hb => .inr (hfr.at 2 rfl b hb))
   replace ho17 := ho49
   have hsl : (Value.slice a19 (d18_l36).length c19) = (Value.slice a19 ((d18_l36.set (Int.toNat t56__s56_l36) (IntKind.i64.wrap (x38 + x43.1)))).length c19) := by first | (rw [List.length_set]; done) | simp only [List.length_set]
   try rw [hsl]
   clear hsl
   obtain ⟨_, hxs47_39⟩ : ∃ y, idx (d18_l36.set (Int.toNat t56__s56_l36) (IntKind.i64.wrap (x38 + x43.1))) t56__s56_l36 = some y := idx_set_any hxs47_39 _ _
   refine x_end rfl ?_
   refine k_block ?_
   refine k_then ?_
   refine c_plain ?_
   refine x_pure 2 [(68, Vi (IntKind.i64.wrap (t56__s56_l36 + 1))), (56, Vi (IntKind.i64.wrap (t56__s56_l36 + 1)))] _ _ _ (by kernel_rfl) ?_
   refine x_end rfl ?_
   have hx := some_inj h
   subst hx
   exact k_then ⟨(m36, x43.2, (d18_l36.set (Int.toNat t56__s56_l36) (IntKind.i64.wrap (x38 + x43.1))), IntKind.i64.wrap (t56__s56_l36 + 1)), ⟨rfl, rfl, rfl, rfl, rfl, rfl, trivial⟩, ⟨hn36, hev, hms, hfr, hf3_2, hf3_1, ho14, ho17⟩, Nat.lt_succ_self _⟩
 replace h := ite_f hb h
 refine c_exit ?_
 refine k_then_exit ?_
 have hx := some_inj h
 subst hx
 have hy := some_inj hn36
 subst hy
 replace h := h36
 refine k_then_exit ?_
 refine k_block_in ?_
 refine k_then ?_
 refine c_norm [(3, Vp b0_3 0), (8, Vi x10.2.2), (9, .slice a16 (d15_l21).length c16), (10, .slice a19 (d18_l36).length c19)] ⟨rfl, rfl, rfl, rfl, trivial⟩ (fun J => ?_)
 refine c_sp ?_
 refine x_pure 2 [(69, .slice a19 (d18_l36).length c19), (70, Vp b0_3 0)] _ _ _ (by kernel_rfl) ?_
 obtain ⟨x50, hx, h⟩ := bind_some h
 have hpk : MS wl36 ([[b0_3]] ++ [blk a16, blk a19, M]) := hms.pick [some 0, some 1, some 2, some 3] _ rfl
 have hsb0 : ∀ x ∈ fl ([[b0_3]] ++ [blk a16, blk a19, M]), x ∈ fl [[b0_3], blk a16, blk a19, M] := pick_sub [some 0, some 1, some 2, some 3] _ rfl
 have hsb : ∀ x ∈ fl ([[b0_3]] ++ [(fl [blk a16, blk a19, M])]), x ∈ fl [[b0_3], blk a16, blk a19, M] := fun x hx => hsb0 x (fl_unfold x hx)
 have hcall := gen_Maker_From_w b0_3 a1_3 c1_3 x2.1 e4_l36_1 1 20 _ wl36 (fl [blk a16, blk a19, M]) (hpk.fold (P := [[b0_3]])) (hf3_2.sub hsb) hf3_1 hx
 refine x_call 15 #[] #[] [Vp b0_3 0, Vi 1, Vi 20] _ rfl rfl rfl rfl hcall ?_
 rintro v w51 ⟨rfl, he51, hp51_0⟩
 clear hcall hx
 refine inl1 ?_
 have hpk2 : MS wl36 ([[b0_3]] ++ [blk a16, blk a19, M]) := hms.pick [some 0, some 1, some 2, some 3] _ rfl
 have hsb2 : ∀ x ∈ fl ([[b0_3]] ++ [blk a16, blk a19, M]), x ∈ fl [[b0_3], blk a16, blk a19, M] := pick_sub [some 0, some 1, some 2, some 3] _ rfl
 have hst0 := Stp.call (LS := [[b0_3], blk a16, blk a19, M]) (res := []) (par := [[b0_3]]) (R := [blk a16, blk a19, M]) he51 (fun b hb => hsb2 b (fl_left' (P := [[b0_3]]) b hb)) (FR.nil _) (NP.init _ _) (fun x hx => hsb2 x (fl_right' (P := [[b0_3]]) x hx))
 have hsn : ∀ x ∈ fl [[b0_3], blk a16, blk a19, M], x ∈ fl ([] ++ ([[b0_3]] ++ [blk a16, blk a19, M])) := pick_sub [some 0, some 1, some 2, some 3] _ rfl
 have hst := hst0.res hsn
 replace hf3_2 := hf3_2.step hst
 replace ho14 := ho14.step hst he51 (MS.outs (P := [[b0_3]]) hpk2 0 rfl)
 replace ho17 := ho17.step hst he51 (MS.outs (P := [[b0_3]]) hpk2 1 rfl)
 replace hms := hms.ev he51
 have hPf : ∀ b ∈ fl [[b0_3]], w.heap.size ≤ b := FR.mem (ls := [[b0_3]]) (hfr.pick [some 0] _ rfl)
 replace hev := hev.then he51 (fun b hb => .inr (hPf b hb))
 replace hf3_1 := hp51_0
 clear hpk hsb hsb0 hpk2 hsb2 hst0 hsn hst
 refine x_buildSlice (vs := [(0, Vi x50.1)]) #[Vi x50.1] 3 rfl rfl rfl (by kernel_rfl) (fun b52 w52 hq52 hb52 he52 hz52 => ?_)
 refine inl1 ?_
 have hms0 := hms
 have hst := Stp.ext (ls := [[b0_3], blk a16, blk a19, M]) he52
 replace hf3_1 := he52.box hf3_1 nn
 replace hf3_2 := hf3_2.step hst
 replace ho14 := ho14.step hst he52 nn2
 replace ho17 := ho17.step hst he52 nn2
 replace hms := hms.ev he52
 replace hev := hev.ext he52
 have hs52 : SlR (eInt .i64) w52 (fl [[b0_3], blk a16, blk a19, M]) (Ad b52 0) 1 ([x50.1]) := ro_of_box hms0 hq52 hb52 rfl rfl (cells_at (cs := [Vi x50.1]) (CellsOf.cons (c := [Vi x50.1]) rfl CellsOf.nil))
 clear hb52 hms0
 have hg := guard_l h
 replace h := guard_r h
 obtain ⟨a54, c54, w54, hr54, he54, hn54, hm54, hw54⟩ := own_appendN tel22 22 ho17 (mem_flat 2 rfl) hs52 hg
 refine x_builtin (vs := [.slice a19 (d18_l36).length c19, .slice (Ad b52 0) ([x50.1]).length 1]) _ w54 rfl rfl rfl rfl (run_value _ _ _ _ hr54) ?_
 refine inl1 ?_
 have hst : Stp (fl [[b0_3], blk a16, blk a19, M]) w52 (fl [[b0_3], blk a16, blk a54, M]) w54 := Stp.upd 2 he54 rfl (fun b hb => (hn54 b hb).1)
 replace hf3_1 := he54.box hf3_1 (hms.apart 0 2 rfl rfl rfl _ mem1)
 replace hf3_2 := hf3_2.step hst
 replace ho14 := ho14.step hst he54 (hms.apart 1 2 rfl rfl rfl)
 replace hs52 := hs52.step hst
 replace hms : MS w54 [[b0_3], blk a16, blk a54, M] := hms.upd 2 he54 rfl hn54
 have hfr2 : FR w.heap.size [[b0_3], blk a16, blk a54] := hfr.upd 2 rfl hev.size (fun b hb => (hn54 b hb).1)
 replace hev := hev.then he54 (fun b hb => .inr (hfr.at 2 rfl b hb))
 replace hfr := hfr2
 clear hfr2
 replace ho17 := hw54 (fl [[b0_3], blk a16, blk a54, M]) hst.new
 clear hw54
 refine x_pure 1 [(10, .slice a54 ((d18_l36 ++ [x50.1])).length c54)] _ _ _ (by kernel_rfl) ?_
 refine x_ek ?_
 refine c_sp ?_
 refine x_pure 2 [(75, .slice a16 (d15_l21).length c16), (76, .slice a54 ((d18_l36 ++ [x50.1])).length c54)] _ _ _ (by kernel_rfl) ?_
 obtain ⟨x55, hx, h⟩ := bind_some h
 have hpk : MS w54 ([] ++ [[b0_3], M]) := hms.pick [some 0, some 3] _ rfl
 have hsb0 : ∀ x ∈ fl ([] ++ [[b0_3], M]), x ∈ fl [[b0_3], blk a16, blk a54, M] := pick_sub [some 0, some 3] _ rfl
 have hsb : ∀ x ∈ fl ([] ++ [(fl [[b0_3], M])]), x ∈ fl [[b0_3], blk a16, blk a54, M] := fun x hx => hsb0 x (fl_unfold x hx)
 have hcall := assign_Match_w a16 c16 d15_l21 a54 c54 (d18_l36 ++ [x50.1]) _ w54 (fl [[b0_3], M]) (MS.fold (P := []) hpk) (ho14.ro hsb (fun b hb hb2 => pick_out hms 1 rfl [some 0, some 3] ([] ++ [[b0_3], M]) rfl rfl b hb (fl_unfold b hb2))) (ho17.ro hsb (fun b hb hb2 => pick_out hms 2 rfl [some 0, some 3] ([] ++ [[b0_3], M]) rfl rfl b hb (fl_unfold b hb2))) hx
 refine x_call 8 #[] #[] [.slice a16 (d15_l21).length c16, .slice a54 ((d18_l36 ++ [x50.1])).length c54] _ rfl rfl rfl rfl hcall ?_
 rintro v w56 ⟨a0_56, c0_56, a2_56, c2_56, rfl, he56, hmn56, hfn56, hf56_1, hf56_2⟩
 clear hcall hx
 refine inl1 ?_
 have hpk2 : MS w54 ([] ++ [[b0_3], blk a16, blk a54, M]) := hms.pick [some 0, some 1, some 2, some 3] _ rfl
 have hsb2 : ∀ x ∈ fl ([] ++ [[b0_3], blk a16, blk a54, M]), x ∈ fl [[b0_3], blk a16, blk a54, M] := pick_sub [some 0, some 1, some 2, some 3] _ rfl
 have hst0 := Stp.call (LS := [[b0_3], blk a16, blk a54, M]) (res := [blk a0_56, blk a2_56]) (par := []) (R := [[b0_3], blk a16, blk a54, M]) he56 (fun b hb => hsb2 b (fl_left' (P := []) b hb)) hfn56 (NP.init _ _) (fun x hx => hsb2 x (fl_right' (P := []) x hx))
 have hsn : ∀ x ∈ fl [blk a0_56, blk a2_56, [b0_3], blk a16, blk a54, M], x ∈ fl ([blk a0_56, blk a2_56] ++ ([] ++ [[b0_3], blk a16, blk a54, M])) := pick_sub [some 0, some 1, some 2, some 3, some 4, some 5] _ rfl
 have hst := hst0.res hsn
 replace hf3_1 := he56.box hf3_1 ((MS.outs (P := []) hpk2 0 rfl) _ mem1)
 replace hf3_2 := hf3_2.step hst
 replace ho14 := ho14.step hst he56 (MS.outs (P := []) hpk2 1 rfl)
 replace ho17 := ho17.step hst he56 (MS.outs (P := []) hpk2 2 rfl)
 replace hms : MS w56 [blk a0_56, blk a2_56, [b0_3], blk a16, blk a54, M] := (MS.call (P := []) (R := [[b0_3], blk a16, blk a54, M]) (res := [blk a0_56, blk a2_56]) (par := []) hpk2 he56 hmn56 hfn56 (NP.init _ _)).pick [some 0, some 1, some 2, some 3, some 4, some 5] _ rfl
 have hfr2 : FR w.heap.size [blk a0_56, blk a2_56, [b0_3], blk a16, blk a54] := (FR.cons (fun b hb => Nat.le_trans hev.size (hfn56.at 0 rfl b hb)) (FR.cons (fun b hb => Nat.le_trans hev.size (hfn56.at 1 rfl b hb)) (FR.cons (hfr.at 0 rfl) (FR.cons (hfr.at 1 rfl) (FR.cons (hfr.at 2 rfl) (FR.nil _))))))
 replace hev := hev.ext he56
 replace hfr := hfr2
 clear hfr2
 replace hf56_1 := OwnS.plain (M' := fl [blk a0_56, blk a2_56, [b0_3], blk a16, blk a54, M]) (plain_int _) hf56_1
 replace hf56_2 := OwnS.plain (M' := fl [blk a0_56, blk a2_56, [b0_3], blk a16, blk a54, M]) (plain_int _) hf56_2
 clear hpk hsb hsb0 hpk2 hsb2 hst0 hsn hst
 have hpk : MS w56 [blk a2_56, [b0_3], blk a16, blk a54, M] := hms.pick [some 1, some 2, some 3, some 4, some 5] _ rfl
 have hsu : ∀ x ∈ fl [blk a2_56, [b0_3], blk a16, blk a54, M], x ∈ fl [blk a0_56, blk a2_56, [b0_3], blk a16, blk a54, M] := pick_sub [some 1, some 2, some 3, some 4, some 5] _ rfl
 replace hf3_2 := hf3_2.sub hsu
 replace ho14 := ho14.sub hsu
 replace ho17 := ho17.sub hsu
 replace hf56_1 := hf56_1.ro hsu (pick_out hms 0 rfl [some 1, some 2, some 3, some 4, some 5] [blk a2_56, [b0_3], blk a16, blk a54, M] rfl rfl)
 replace hf56_2 := hf56_2.sub hsu
 replace hms := hpk
 replace hfr : FR w.heap.size [blk a2_56, [b0_3], blk a16, blk a54] := hfr.pick [some 1, some 2, some 3, some 4] _ rfl
 clear hpk hsu
 have hpk : MS w56 [[b0_3], blk a16, blk a54, M] := hms.pick [some 1, some 2, some 3, some 4] _ rfl
 have hsu : ∀ x ∈ fl [[b0_3], blk a16, blk a54, M], x ∈ fl [blk a2_56, [b0_3], blk a16, blk a54, M] := pick_sub [some 1, some 2, some 3, some 4] _ rfl
 replace hf3_2 := hf3_2.sub hsu
 replace ho14 := ho14.sub hsu
 replace ho17 := ho17.sub hsu
 replace hf56_1 := hf56_1.sub hsu
 replace hf56_2 := hf56_2.ro hsu (pick_out hms 0 rfl [some 1, some 2, some 3, some 4] [[b0_3], blk a16, blk a54, M] rfl rfl)
 replace hms := hpk
 replace hfr : FR w.heap.size [[b0_3], blk a16, blk a54] := hfr.pick [some 1, some 2, some 3] _ rfl
 clear hpk hsu
 refine x_pure 7 [(74, .tuple #[.slice a0_56 (x55.1).length c0_56, .slice a2_56 (x55.2.1).length c2_56, Vi x55.2.2]), (78, .slice a0_56 (x55.1).length c0_56), (79, .slice a2_56 (x55.2.1).length c2_56), (80, Vi x55.2.2), (13, .slice a0_56 (x55.1).length c0_56), (14, .slice a2_56 (x55.2.1).length c2_56), (15, Vi x55.2.2)] _ _ _ (by kernel_rfl) ?_
 refine x_ek ?_
 refine c_norm [(8, Vi x10.2.2), (15, Vi x55.2.2)] ⟨rfl, rfl, trivial⟩ (fun J => ?_)
 refine c_sp ?_
 refine x_pure 3 [(81, Vi x10.2.2), (82, .bool (x10.2.2 != 0)), (83, .bool (x10.2.2 != 0))] _ _ _ (by kernel_rfl) ?_
 refine x_split 83 (x10.2.2 != 0) rfl (fun hb => ?_) (fun hb => ?_)
 · replace h := ite_t hb h
   refine x_pure 7 [(84, undef), (85, undef), (86, .bool true), (87, .bool true), (88, Vi x10.2.2), (89, .bool (x10.2.2 == 0)), (90, .bool (x10.2.2 == 0))] _ _ _ (by kernel_rfl) ?_
   refine x_split 90 (x10.2.2 == 0) rfl (fun hb => ?_) (fun hb => ?_)
   · replace h := ite_t hb h
     refine x_pure 5 [(91, undef), (92, undef), (93, .bool true), (94, .bool true), (95, .bool true)] _ _ _ (by kernel_rfl) ?_
     obtain ⟨x59, hx, h⟩ := bind_some h
     have hcall := law16_sane_w _ w56 hx
     refine x_call 9 #[] #[] [] _ rfl rfl rfl rfl hcall ?_
     rintro v w60 ⟨rfl, he60⟩
     clear hcall hx
     refine inl1 ?_
     have hst := Stp.ext (ls := [[b0_3], blk a16, blk a54, M]) he60
     replace hf3_1 := he60.box hf3_1 nn
     replace hf3_2 := hf3_2.step hst
     replace ho14 := ho14.step hst he60 nn2
     replace ho17 := ho17.step hst he60 nn2
     replace hms := hms.ev he60
     replace hev := hev.ext he60
     refine x_pure 2 [(97, .bool x59), (2, .bool x59)] _ _ _ (by kernel_rfl) ?_
     refine x_ek ?_
     refine c_norm [(2, .bool x59)] ⟨rfl, trivial⟩ (fun J => ?_)
     refine c_ret ?_
     refine r_ret (r_vals [.bool x59] ⟨rfl, trivial⟩ ?_)
     have hx := some_inj h
     subst hx
     have hmr : MS w60 [M] := hms.pick [some 3] _ rfl
     have hsu : ∀ x ∈ fl [M], x ∈ fl [[b0_3], blk a16, blk a54, M] := pick_sub [some 3] _ rfl
     exact ⟨rfl, hev⟩
   replace h := ite_f hb h
   refine x_pure 5 [(91, Vi x10.2.2), (92, .bool (x10.2.2 == 14)), (93, .bool (x10.2.2 == 14)), (94, .bool (x10.2.2 == 14)), (95, .bool (x10.2.2 == 14))] _ _ _ (by kernel_rfl) ?_
   refine x_split 95 (x10.2.2 == 14) rfl (fun hb => ?_) (fun hb => ?_)
   · replace h := ite_t hb h
     obtain ⟨x61, hx, h⟩ := bind_some h
     have hcall := law16_sane_w _ w56 hx
     refine x_call 9 #[] #[] [] _ rfl rfl rfl rfl hcall ?_
     rintro v w62 ⟨rfl, he62⟩
     clear hcall hx
     refine inl1 ?_
     have hst := Stp.ext (ls := [[b0_3], blk a16, blk a54, M]) he62
     replace hf3_1 := he62.box hf3_1 nn
     replace hf3_2 := hf3_2.step hst
     replace ho14 := ho14.step hst he62 nn2
     replace ho17 := ho17.step hst he62 nn2
     replace hms := hms.ev he62
     replace hev := hev.ext he62
     refine x_pure 2 [(97, .bool x61), (2, .bool x61)] _ _ _ (by kernel_rfl) ?_
     refine x_ek ?_
     refine c_norm [(2, .bool x61)] ⟨rfl, trivial⟩ (fun J => ?_)
     refine c_ret ?_
     refine r_ret (r_vals [.bool x61] ⟨rfl, trivial⟩ ?_)
     have hx := some_inj h
     subst hx
     have hmr : MS w62 [M] := hms.pick [some 3] _ rfl
     have hsu : ∀ x ∈ fl [M], x ∈ fl [[b0_3], blk a16, blk a54, M] := pick_sub [some 3] _ rfl
     exact ⟨rfl, hev⟩
   replace h := ite_f hb h
   refine x_pure 3 [(96, undef), (97, .bool false), (2, .bool false)] _ _ _ (by kernel_rfl) ?_
   refine x_ek ?_
   refine c_norm [(2, .bool false)] ⟨rfl, trivial⟩ (fun J => ?_)
   refine c_ret ?_
   refine r_ret (r_vals [.bool false] ⟨rfl, trivial⟩ ?_)
   have hx := some_inj h
   subst hx
   have hmr : MS w56 [M] := hms.pick [some 3] _ rfl
   have hsu : ∀ x ∈ fl [M], x ∈ fl [[b0_3], blk a16, blk a54, M] := pick_sub [some 3] _ rfl
   exact ⟨rfl, hev⟩
 replace h := ite_f hb h
 refine x_pure 4 [(84, Vi x55.2.2), (85, .bool (x55.2.2 == 0)), (86, .bool (x55.2.2 == 0)), (87, .bool (x55.2.2 == 0))] _ _ _ (by kernel_rfl) ?_
 refine x_split 87 (x55.2.2 == 0) rfl (fun hb => ?_) (fun hb => ?_)
 · replace h := ite_t hb h
   refine x_pure 3 [(88, Vi x10.2.2), (89, .bool (x10.2.2 == 0)), (90, .bool (x10.2.2 == 0))] _ _ _ (by kernel_rfl) ?_
   refine x_split 90 (x10.2.2 == 0) rfl (fun hb => ?_) (fun hb => ?_)
   · replace h := ite_t hb h
     refine x_pure 5 [(91, undef), (92, undef), (93, .bool true), (94, .bool true), (95, .bool true)] _ _ _ (by kernel_rfl) ?_
     obtain ⟨x63, hx, h⟩ := bind_some h
     have hcall := law16_sane_w _ w56 hx
     refine x_call 9 #[] #[] [] _ rfl rfl rfl rfl hcall ?_
     rintro v w64 ⟨rfl, he64⟩
     clear hcall hx
     refine inl1 ?_
     have hst := Stp.ext (ls := [[b0_3], blk a16, blk a54, M]) he64
     replace hf3_1 := he64.box hf3_1 nn
     replace hf3_2 := hf3_2.step hst
     replace ho14 := ho14.step hst he64 nn2
     replace ho17 := ho17.step hst he64 nn2
     replace hms := hms.ev he64
     replace hev := hev.ext he64
     refine x_pure 2 [(97, .bool x63), (2, .bool x63)] _ _ _ (by kernel_rfl) ?_
     refine x_ek ?_
     refine c_norm [(2, .bool x63)] ⟨rfl, trivial⟩ (fun J => ?_)
     refine c_ret ?_
     refine r_ret (r_vals [.bool x63] ⟨rfl, trivial⟩ ?_)
     have hx := some_inj h
     subst hx
     have hmr : MS w64 [M] := hms.pick [some 3] _ rfl
     have hsu : ∀ x ∈ fl [M], x ∈ fl [[b0_3], blk a16, blk a54, M] := pick_sub [some 3] _ rfl
     exact ⟨rfl, hev⟩
   replace h := ite_f hb h
   refine x_pure 5 [(91, Vi x10.2.2), (92, .bool (x10.2.2 == 14)), (93, .bool (x10.2.2 == 14)), (94, .bool (x10.2.2 == 14)), (95, .bool (x10.2.2 == 14))] _ _ _ (by kernel_rfl) ?_
   refine x_split 95 (x10.2.2 == 14) rfl (fun hb => ?_) (fun hb => ?_)
   · replace h := ite_t hb h
     obtain ⟨x65, hx, h⟩ := bind_some h
     have hcall := law16_sane_w _ w56 hx
     refine x_call 9 #[] #[] [] _ rfl rfl rfl rfl hcall ?_
     rintro v w66 ⟨rfl, he66⟩
     clear hcall hx
     refine inl1 ?_
     have hst := Stp.ext (ls := [[b0_3], blk a16, blk a54, M]) he66
     replace hf3_1 := he66.box hf3_1 nn
     replace hf3_2 := hf3_2.step hst
     replace ho14 := ho14.step hst he66 nn2
     replace ho17 := ho17.step hst he66 nn2
     replace hms := hms.ev he66
     replace hev := hev.ext he66
     refine x_pure 2 [(97, .bool x65), (2, .bool x65)] _ _ _ (by kernel_rfl) ?_
     refine x_ek ?_
     refine c_norm [(2, .bool x65)] ⟨rfl, trivial⟩ (fun J => ?_)
     refine c_ret ?_
     refine r_ret (r_vals [.bool x65] ⟨rfl, trivial⟩ ?_)
     have hx := some_inj h
     subst hx
     have hmr : MS w66 [M] := hms.pick [some 3] _ rfl
     have hsu : ∀ x ∈ fl [M], x ∈ fl [[b0_3], blk a16, blk a54, M] := pick_sub [some 3] _ rfl
     exact ⟨rfl, hev⟩
   replace h := ite_f hb h
   refine x_pure 3 [(96, undef), (97, .bool false), (2, .bool false)] _ _ _ (by kernel_rfl) ?_
   refine x_ek ?_
   refine c_norm [(2, .bool false)] ⟨rfl, trivial⟩ (fun J => ?_)
   refine c_ret ?_
   refine r_ret (r_vals [.bool false] ⟨rfl, trivial⟩ ?_)
   have hx := some_inj h
   subst hx
   have hmr : MS w56 [M] := hms.pick [some 3] _ rfl
   have hsu : ∀ x ∈ fl [M], x ∈ fl [[b0_3], blk a16, blk a54, M] := pick_sub [some 3] _ rfl
   exact ⟨rfl, hev⟩
 replace h := ite_f hb h
 refine x_pure 11 [(88, undef), (89, undef), (90, undef), (91, undef), (92, undef), (93, undef), (94, .bool false), (95, .bool false), (96, undef), (97, .bool false), (2, .bool false)] _ _ _ (by kernel_rfl) ?_
 refine x_ek ?_
 refine c_norm [(2, .bool false)] ⟨rfl, trivial⟩ (fun J => ?_)
 refine c_ret ?_
 refine r_ret (r_vals [.bool false] ⟨rfl, trivial⟩ ?_)
 have hx := some_inj h
 subst hx
 have hmr : MS w56 [M] := hms.pick [some 3] _ rfl
 have hsu : ∀ x ∈ fl [M], x ∈ fl [[b0_3], blk a16, blk a54, M] := pick_sub [some 3] _ rfl
 exact ⟨rfl, hev⟩
end Go.Proofs.Ytdbomhhcebmkpaa
