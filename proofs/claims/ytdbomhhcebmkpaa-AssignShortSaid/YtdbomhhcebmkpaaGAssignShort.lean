/- Walks, printed by program: each function returns what the partial function of the same name returns. Conditions: those of each theorem. -/
import Derived.Test.YtdbomhhcebmkpaaGT
import Derived.Test.YtdbomhhcebmkpaaGassign
import Derived.Test.YtdbomhhcebmkpaaGgen
import Derived.Test.YtdbomhhcebmkpaaGlaw16lists
import Derived.Test.YtdbomhhcebmkpaaGlaw16possible
import Derived.Test.YtdbomhhcebmkpaaGlaw16sane
set_option linter.unusedVariables false
set_option linter.unusedSimpArgs false
set_option maxRecDepth 4000
namespace Go.Proofs.Ytdbomhhcebmkpaa
open Go Go.V Go.Proofs
def law16_AssignShort_J10 (x6 : (List Int) × (List Int) × Int) (d12_j10 : List Int) : Option Bool :=
((assign_Match x6.1 d12_j10).bind fun x13 =>
(if (0 : Int) ≤ ((d12_j10).length : Int) ∧ (((d12_j10).length : Int) : Int) ≤ 4294967296 then
((law16_possible x6.1 d12_j10 0 (List.replicate (Int.toNat ((d12_j10).length : Int)) false : List Bool)).bind fun x19 =>
(if x19.2.length = (List.replicate (Int.toNat ((d12_j10).length : Int)) false : List Bool).length then
(if ((x13.2.2 == 0) == x19.1) = true then
((law16_sane).bind fun x21 =>
some x21)
else
some false)
else none))
else none))

def law16_AssignShort (p0 : List Int) : Option Bool :=
((gen_New p0).bind fun x2 =>
((law16_lists x2.1 x2.2 4).bind fun x6 =>
(if (decide (((x6.2.1).length : Int) > 5)) = true then
(if 0 ≤ (0 : Int) ∧ (0 : Int) ≤ 5 ∧ 5 ≤ (x6.2.1.length : Int) then
law16_AssignShort_J10 x6 ((x6.2.1.drop (Int.toNat (0 : Int))).take (Int.toNat 5 - Int.toNat (0 : Int)))
else none)
else
law16_AssignShort_J10 x6 x6.2.1)))

theorem law16_AssignShort_w (a_p0 : Option Addr) (c_p0 : Nat) (p0 : List Int) (r : Bool) (w : World) (M : List Nat) (hms : MS w [M]) (hs_p0 : SlR (eInt .i64) w (fl [M]) a_p0 c_p0 p0) (h : law16_AssignShort p0 = some r) : CallVC Try.prog 6 [.slice a_p0 (p0).length c_p0] w fun v w' => v = .bool r ∧ Ev [] w w' := by
 refine calls_vc hmx Try.func6 (by kernel_rfl) rfl (rs := [.tmp 2]) rfl (by kernel_rfl) (args := [.slice a_p0 (p0).length c_p0]) rfl ?_
 have hev : Ev [] w w := Ev.refl _ _
 have hfr : FR w.heap.size [] := FR.nil _
 refine c_sp ?_
 refine x_pure 1 [(2, .bool false)] _ _ _ (by kernel_rfl) ?_
 refine x_ek ?_
 refine c_sp ?_
 refine x_pure 1 [(9, .slice a_p0 (p0).length c_p0)] _ _ _ (by kernel_rfl) ?_
 obtain ⟨x2, hx, h⟩ := bind_some h
 have hpk : MS w ([] ++ [M]) := hms.pick [some 0] _ rfl
 have hsb0 : ∀ x ∈ fl ([] ++ [M]), x ∈ fl [M] := pick_sub [some 0] _ rfl
 have hsb : ∀ x ∈ fl ([] ++ [(fl [M])]), x ∈ fl [M] := fun x hx => hsb0 x (fl_unfold x hx)
 have hcall := gen_New_w a_p0 c_p0 p0 _ w (fl [M]) (MS.fold (P := []) hpk) (hs_p0.sub hsb) hx
 refine x_call 12 #[] #[] [.slice a_p0 (p0).length c_p0] _ rfl rfl rfl rfl hcall ?_
 rintro v w3 ⟨b0_3, a1_3, c1_3, rfl, he3, hmn3, hfn3, hf3_1, hf3_2⟩
 clear hcall hx
 refine inl1 ?_
 have hpk2 : MS w ([] ++ [M]) := hms.pick [some 0] _ rfl
 have hsb2 : ∀ x ∈ fl ([] ++ [M]), x ∈ fl [M] := pick_sub [some 0] _ rfl
 have hst0 := Stp.call (LS := [M]) (res := [[b0_3]]) (par := []) (R := [M]) he3 (fun b hb => hsb2 b (fl_left' (P := []) b hb)) hfn3 (NP.init _ _) (fun x hx => hsb2 x (fl_right' (P := []) x hx))
 have hsn : ∀ x ∈ fl [[b0_3], M], x ∈ fl ([[b0_3]] ++ ([] ++ [M])) := pick_sub [some 0, some 1] _ rfl
 have hst := hst0.res hsn
 replace hs_p0 := hs_p0.step hst
 replace hms : MS w3 [[b0_3], M] := (MS.call (P := []) (R := [M]) (res := [[b0_3]]) (par := []) hpk2 he3 hmn3 hfn3 (NP.init _ _)).pick [some 0, some 1] _ rfl
 have hfr2 : FR w.heap.size [[b0_3]] := (FR.cons (fun b hb => Nat.le_trans hev.size (hfn3.at 0 rfl b hb)) (FR.nil _))
 replace hev := hev.ext he3
 replace hfr := hfr2
 clear hfr2
 have hsp : ∀ x ∈ fl [[b0_3], M], x ∈ fl ([[b0_3]] ++ ([] ++ [(fl [M])])) := fun x hx => fl_tot (res := [[b0_3]]) (par := []) (R := [M]) x (hsn x hx)
 replace hf3_2 := hf3_2.sub hsp
 clear hpk hsb hsb0 hpk2 hsb2 hst0 hsn hst
 refine x_pure 1 [(3, Vp b0_3 0)] _ _ _ (by kernel_rfl) ?_
 refine x_ek ?_
 refine c_sp ?_
 refine x_pure 1 [(12, Vp b0_3 0)] _ _ _ (by kernel_rfl) ?_
 obtain ⟨x6, hx, h⟩ := bind_some h
 have hpk : MS w3 ([[b0_3]] ++ [M]) := hms.pick [some 0, some 1] _ rfl
 have hsb0 : ∀ x ∈ fl ([[b0_3]] ++ [M]), x ∈ fl [[b0_3], M] := pick_sub [some 0, some 1] _ rfl
 have hsb : ∀ x ∈ fl ([[b0_3]] ++ [(fl [M])]), x ∈ fl [[b0_3], M] := fun x hx => hsb0 x (fl_unfold x hx)
 have hcall := law16_lists_w b0_3 a1_3 c1_3 x2.1 x2.2 4 _ w3 (fl [M]) (hpk.fold (P := [[b0_3]])) (hf3_2.sub hsb) hf3_1 hx
 refine x_call 13 #[] #[] [Vp b0_3 0, Vi 4] _ rfl rfl rfl rfl hcall ?_
 rintro v w7 ⟨a0_7, c0_7, a2_7, c2_7, rfl, he7, hp7_0, hmn7, hfn7, hf7_1, hf7_2⟩
 clear hcall hx
 refine inl1 ?_
 have hpk2 : MS w3 ([[b0_3]] ++ [M]) := hms.pick [some 0, some 1] _ rfl
 have hsb2 : ∀ x ∈ fl ([[b0_3]] ++ [M]), x ∈ fl [[b0_3], M] := pick_sub [some 0, some 1] _ rfl
 have hst0 := Stp.call (LS := [[b0_3], M]) (res := [blk a0_7, blk a2_7]) (par := [[b0_3]]) (R := [M]) he7 (fun b hb => hsb2 b (fl_left' (P := [[b0_3]]) b hb)) hfn7 (NP.init _ _) (fun x hx => hsb2 x (fl_right' (P := [[b0_3]]) x hx))
 have hsn : ∀ x ∈ fl [blk a0_7, blk a2_7, [b0_3], M], x ∈ fl ([blk a0_7, blk a2_7] ++ ([[b0_3]] ++ [M])) := pick_sub [some 0, some 1, some 2, some 3] _ rfl
 have hst := hst0.res hsn
 replace hf3_2 := hf3_2.step hst
 replace hms : MS w7 [blk a0_7, blk a2_7, [b0_3], M] := (MS.call (P := [[b0_3]]) (R := [M]) (res := [blk a0_7, blk a2_7]) (par := [[b0_3]]) hpk2 he7 hmn7 hfn7 (NP.init _ _)).pick [some 0, some 1, some 2, some 3] _ rfl
 have hPf : ∀ b ∈ fl [[b0_3]], w.heap.size ≤ b := FR.mem (ls := [[b0_3]]) (hfr.pick [some 0] _ rfl)
 have hfr2 : FR w.heap.size [blk a0_7, blk a2_7, [b0_3]] := (FR.cons (fun b hb => Nat.le_trans hev.size (hfn7.at 0 rfl b hb)) (FR.cons (fun b hb => Nat.le_trans hev.size (hfn7.at 1 rfl b hb)) (FR.cons (hfr.at 0 rfl) (FR.nil _))))
 replace hev := hev.then he7 (fun b hb => .inr (hPf b hb))
 replace hfr := hfr2
 clear hfr2
 replace hf3_1 := hp7_0
 replace hf7_1 := OwnS.plain (M' := fl [blk a0_7, blk a2_7, [b0_3], M]) (plain_int _) hf7_1
 replace hf7_2 := OwnS.plain (M' := fl [blk a0_7, blk a2_7, [b0_3], M]) (plain_int _) hf7_2
 clear hpk hsb hsb0 hpk2 hsb2 hst0 hsn hst
 have hpk : MS w7 [blk a2_7, [b0_3], M] := hms.pick [some 1, some 2, some 3] _ rfl
 have hsu : ∀ x ∈ fl [blk a2_7, [b0_3], M], x ∈ fl [blk a0_7, blk a2_7, [b0_3], M] := pick_sub [some 1, some 2, some 3] _ rfl
 replace hf3_2 := hf3_2.sub hsu
 replace hf7_1 := hf7_1.ro hsu (pick_out hms 0 rfl [some 1, some 2, some 3] [blk a2_7, [b0_3], M] rfl rfl)
 replace hf7_2 := hf7_2.sub hsu
 replace hms := hpk
 replace hfr : FR w.heap.size [blk a2_7, [b0_3]] := hfr.pick [some 1, some 2] _ rfl
 clear hpk hsu
 have hpk : MS w7 [[b0_3], M] := hms.pick [some 1, some 2] _ rfl
 have hsu : ∀ x ∈ fl [[b0_3], M], x ∈ fl [blk a2_7, [b0_3], M] := pick_sub [some 1, some 2] _ rfl
 replace hf3_2 := hf3_2.sub hsu
 replace hf7_1 := hf7_1.sub hsu
 replace hf7_2 := hf7_2.ro hsu (pick_out hms 0 rfl [some 1, some 2] [[b0_3], M] rfl rfl)
 replace hms := hpk
 replace hfr : FR w.heap.size [[b0_3]] := hfr.pick [some 1] _ rfl
 clear hpk hsu
 refine x_pure 5 [(11, .tuple #[.slice a0_7 (x6.1).length c0_7, .slice a2_7 (x6.2.1).length c2_7]), (14, .slice a0_7 (x6.1).length c0_7), (15, .slice a2_7 (x6.2.1).length c2_7), (4, .slice a0_7 (x6.1).length c0_7), (5, .slice a2_7 (x6.2.1).length c2_7)] _ _ _ (by kernel_rfl) ?_
 refine x_ek ?_
 refine c_join (σ := (List Int) × Option Addr × Nat) (fun s => match s with | (d12_j10, a12_j10, c12_j10) => [(4, .slice a0_7 (x6.1).length c0_7), (5, .slice a12_j10 (d12_j10).length c12_j10)]) (fun s w' => match s with | (d12_j10, a12_j10, c12_j10) => law16_AssignShort_J10 x6 d12_j10 = some r ∧ Ev [] w w' ∧ MS w' [M] ∧ FR w.heap.size [] ∧ SlR (eInt .i64) w' (fl [M]) a0_7 c0_7 x6.1 ∧ SlR (eInt .i64) w' (fl [M]) a12_j10 c12_j10 d12_j10) ?_ ?_
 · refine c_sp ?_
   refine x_pure 1 [(16, .slice a2_7 (x6.2.1).length c2_7)] _ _ _ (by kernel_rfl) ?_
   refine x_len (vs := [.slice a2_7 (x6.2.1).length c2_7]) (Vi ((x6.2.1).length : Int)) rfl rfl rfl (reads_len tsl22 _ _ _ _ _) ?_
   refine x_pure 1 [(18, .bool (decide (((x6.2.1).length : Int) > 5)))] _ _ _ (by kernel_rfl) ?_
   refine x_ek ?_
   refine c_norm [(4, .slice a0_7 (x6.1).length c0_7), (5, .slice a2_7 (x6.2.1).length c2_7), (18, .bool (decide (((x6.2.1).length : Int) > 5)))] ⟨rfl, rfl, rfl, trivial⟩ (fun J => ?_)
   refine c_cond (decide (((x6.2.1).length : Int) > 5)) rfl (fun hb => ?_) (fun hb => ?_)
   · replace h := ite_t hb h
     refine c_plain ?_
     refine x_pure 1 [(19, .slice a2_7 (x6.2.1).length c2_7)] _ _ _ (by kernel_rfl) ?_
     have hg := guard_l h
     replace h := guard_r h
     obtain ⟨a11, c11, hr11, hs11⟩ := SlR.sliced (P := Try.prog) (Mo := []) tsl22 hf7_2 none (some 5) hg
     replace hs11 : SlR (eInt .i64) w7 (fl [[b0_3], M]) a11 c11 ((x6.2.1.drop (Int.toNat (0 : Int))).take (Int.toNat 5 - Int.toNat (0 : Int))) := hs11
     refine x_slice (xv := .slice a2_7 (x6.2.1).length c2_7) (lv := none) (hv := (some (Vi 5))) (mv := none) (.slice a11 (((x6.2.1.drop (Int.toNat (0 : Int))).take (Int.toNat 5 - Int.toNat (0 : Int)))).length c11) rfl rfl rfl rfl rfl rfl hr11 ?_
     refine x_pure 1 [(5, .slice a11 (((x6.2.1.drop (Int.toNat (0 : Int))).take (Int.toNat 5 - Int.toNat (0 : Int)))).length c11)] _ _ _ (by kernel_rfl) ?_
     refine x_end rfl ?_
     have hpk : MS w7 [M] := hms.pick [some 1] _ rfl
     have hsu : ∀ x ∈ fl [M], x ∈ fl [[b0_3], M] := pick_sub [some 1] _ rfl
     replace hf7_1 := hf7_1.sub hsu
     replace hs11 := hs11.sub hsu
     replace hms := hpk
     replace hfr : FR w.heap.size [] := hfr.pick [] _ rfl
     clear hpk hsu
     exact k_then ⟨(((x6.2.1.drop (Int.toNat (0 : Int))).take (Int.toNat 5 - Int.toNat (0 : Int))), a11, c11), ⟨rfl, rfl, trivial⟩, h, hev, hms, hfr, hf7_1, hs11⟩
   replace h := ite_f hb h
   refine c_skip ?_
   have hpk : MS w7 [M] := hms.pick [some 1] _ rfl
   have hsu : ∀ x ∈ fl [M], x ∈ fl [[b0_3], M] := pick_sub [some 1] _ rfl
   replace hf7_1 := hf7_1.sub hsu
   replace hf7_2 := hf7_2.sub hsu
   replace hms := hpk
   replace hfr : FR w.heap.size [] := hfr.pick [] _ rfl
   clear hpk hsu
   exact k_then ⟨(x6.2.1, a2_7, c2_7), ⟨rfl, rfl, trivial⟩, h, hev, hms, hfr, hf7_1, hf7_2⟩
 rintro ⟨d12_j10, a12_j10, c12_j10⟩ J wj10 ⟨h, hev, hms, hfr, hf7_1, hj12_j10⟩
 refine c_sp ?_
 refine x_pure 2 [(22, .slice a0_7 (x6.1).length c0_7), (23, .slice a12_j10 (d12_j10).length c12_j10)] _ _ _ (by kernel_rfl) ?_
 obtain ⟨x13, hx, h⟩ := bind_some h
 have hpk : MS wj10 ([] ++ [M]) := hms.pick [some 0] _ rfl
 have hsb0 : ∀ x ∈ fl ([] ++ [M]), x ∈ fl [M] := pick_sub [some 0] _ rfl
 have hsb : ∀ x ∈ fl ([] ++ [(fl [M])]), x ∈ fl [M] := fun x hx => hsb0 x (fl_unfold x hx)
 have hcall := assign_Match_w a0_7 c0_7 x6.1 a12_j10 c12_j10 d12_j10 _ wj10 (fl [M]) (MS.fold (P := []) hpk) (hf7_1.sub hsb) (hj12_j10.sub hsb) hx
 refine x_call 8 #[] #[] [.slice a0_7 (x6.1).length c0_7, .slice a12_j10 (d12_j10).length c12_j10] _ rfl rfl rfl rfl hcall ?_
 rintro v w14 ⟨a0_14, c0_14, a2_14, c2_14, rfl, he14, hmn14, hfn14, hf14_1, hf14_2⟩
 clear hcall hx
 refine inl1 ?_
 have hpk2 : MS wj10 ([] ++ [M]) := hms.pick [some 0] _ rfl
 have hsb2 : ∀ x ∈ fl ([] ++ [M]), x ∈ fl [M] := pick_sub [some 0] _ rfl
 have hst0 := Stp.call (LS := [M]) (res := [blk a0_14, blk a2_14]) (par := []) (R := [M]) he14 (fun b hb => hsb2 b (fl_left' (P := []) b hb)) hfn14 (NP.init _ _) (fun x hx => hsb2 x (fl_right' (P := []) x hx))
 have hsn : ∀ x ∈ fl [blk a0_14, blk a2_14, M], x ∈ fl ([blk a0_14, blk a2_14] ++ ([] ++ [M])) := pick_sub [some 0, some 1, some 2] _ rfl
 have hst := hst0.res hsn
 replace hf7_1 := hf7_1.step hst
 replace hj12_j10 := hj12_j10.step hst
 replace hms : MS w14 [blk a0_14, blk a2_14, M] := (MS.call (P := []) (R := [M]) (res := [blk a0_14, blk a2_14]) (par := []) hpk2 he14 hmn14 hfn14 (NP.init _ _)).pick [some 0, some 1, some 2] _ rfl
 have hfr2 : FR w.heap.size [blk a0_14, blk a2_14] := (FR.cons (fun b hb => Nat.le_trans hev.size (hfn14.at 0 rfl b hb)) (FR.cons (fun b hb => Nat.le_trans hev.size (hfn14.at 1 rfl b hb)) (FR.nil _)))
 replace hev := hev.ext he14
 replace hfr := hfr2
 clear hfr2
 replace hf14_1 := OwnS.plain (M' := fl [blk a0_14, blk a2_14, M]) (plain_int _) hf14_1
 replace hf14_2 := OwnS.plain (M' := fl [blk a0_14, blk a2_14, M]) (plain_int _) hf14_2
 clear hpk hsb hsb0 hpk2 hsb2 hst0 hsn hst
 have hpk : MS w14 [blk a2_14, M] := hms.pick [some 1, some 2] _ rfl
 have hsu : ∀ x ∈ fl [blk a2_14, M], x ∈ fl [blk a0_14, blk a2_14, M] := pick_sub [some 1, some 2] _ rfl
 replace hf7_1 := hf7_1.sub hsu
 replace hj12_j10 := hj12_j10.sub hsu
 replace hf14_1 := hf14_1.ro hsu (pick_out hms 0 rfl [some 1, some 2] [blk a2_14, M] rfl rfl)
 replace hf14_2 := hf14_2.sub hsu
 replace hms := hpk
 replace hfr : FR w.heap.size [blk a2_14] := hfr.pick [some 1] _ rfl
 clear hpk hsu
 have hpk : MS w14 [M] := hms.pick [some 1] _ rfl
 have hsu : ∀ x ∈ fl [M], x ∈ fl [blk a2_14, M] := pick_sub [some 1] _ rfl
 replace hf7_1 := hf7_1.sub hsu
 replace hj12_j10 := hj12_j10.sub hsu
 replace hf14_1 := hf14_1.sub hsu
 replace hf14_2 := hf14_2.ro hsu (pick_out hms 0 rfl [some 1] [M] rfl rfl)
 replace hms := hpk
 replace hfr : FR w.heap.size [] := hfr.pick [] _ rfl
 clear hpk hsu
 refine x_pure 7 [(21, .tuple #[.slice a0_14 (x13.1).length c0_14, .slice a2_14 (x13.2.1).length c2_14, Vi x13.2.2]), (25, .slice a0_14 (x13.1).length c0_14), (26, .slice a2_14 (x13.2.1).length c2_14), (27, Vi x13.2.2), (6, .slice a0_14 (x13.1).length c0_14), (7, .slice a2_14 (x13.2.1).length c2_14), (8, Vi x13.2.2)] _ _ _ (by kernel_rfl) ?_
 refine x_ek ?_
 refine c_norm [(4, .slice a0_7 (x6.1).length c0_7), (5, .slice a12_j10 (d12_j10).length c12_j10), (8, Vi x13.2.2)] ⟨rfl, rfl, rfl, trivial⟩ (fun J => ?_)
 refine c_sp ?_
 refine x_pure 5 [(28, Vi x13.2.2), (29, .bool (x13.2.2 == 0)), (30, .slice a0_7 (x6.1).length c0_7), (31, .slice a12_j10 (d12_j10).length c12_j10), (32, .slice a12_j10 (d12_j10).length c12_j10)] _ _ _ (by kernel_rfl) ?_
 refine x_len (vs := [.slice a12_j10 (d12_j10).length c12_j10]) (Vi ((d12_j10).length : Int)) rfl rfl rfl (reads_len tsl22 _ _ _ _ _) ?_
 have hg := guard_l h
 replace h := guard_r h
 obtain ⟨a17, c17, w17, hr17, he17, hn17, hw17⟩ := own_make (e := eBool) tel41 w14 ((d12_j10).length : Int) hg.1 hg.2 false (fun _ _ => rfl)
 refine x_makeSlice _ w17 (xv := Vi ((d12_j10).length : Int)) (yv := Vi ((d12_j10).length : Int)) rfl rfl rfl rfl hr17 ?_
 refine inl1 ?_
 have hst := Stp.push (ls := [M]) (l := blk a17) he17 (fun _ h => by cases h) (fun b hb => (hn17 b hb).1)
 replace hf7_1 := hf7_1.step hst
 replace hj12_j10 := hj12_j10.step hst
 replace hms := hms.push he17 hn17
 replace hfr := hfr.push (fun b hb => Nat.le_trans hev.size (hn17 b hb).1)
 replace hev := hev.ext he17
 have ho17 := hw17 (fl [blk a17, M])
 clear hw17
 obtain ⟨x19, hx, h⟩ := bind_some h
 have hpk : MS w17 ([blk a17] ++ [M]) := hms.pick [some 0, some 1] _ rfl
 have hsb0 : ∀ x ∈ fl ([blk a17] ++ [M]), x ∈ fl [blk a17, M] := pick_sub [some 0, some 1] _ rfl
 have hsb : ∀ x ∈ fl ([blk a17] ++ [(fl [M])]), x ∈ fl [blk a17, M] := fun x hx => hsb0 x (fl_unfold x hx)
 have hcall := law16_possible_w a0_7 c0_7 x6.1 a12_j10 c12_j10 d12_j10 0 a17 c17 (List.replicate (Int.toNat ((d12_j10).length : Int)) false : List Bool) _ w17 (fl [M]) (hpk.fold (P := [blk a17])) (hf7_1.sub hsb) (hj12_j10.sub hsb) (ho17.sub hsb) hx
 refine x_call 20 #[] #[] [.slice a0_7 (x6.1).length c0_7, .slice a12_j10 (d12_j10).length c12_j10, Vi 0, .slice a17 ((List.replicate (Int.toNat ((d12_j10).length : Int)) false : List Bool)).length c17] _ rfl rfl rfl rfl hcall ?_
 rintro v w20 ⟨rfl, he20, hp20_0, hmn20, hfn20, hnp20⟩
 clear hcall hx
 refine inl1 ?_
 have hpk2 : MS w17 ([blk a17] ++ [M]) := hms.pick [some 0, some 1] _ rfl
 have hsb2 : ∀ x ∈ fl ([blk a17] ++ [M]), x ∈ fl [blk a17, M] := pick_sub [some 0, some 1] _ rfl
 have hst0 := Stp.call (LS := [blk a17, M]) (res := []) (par := [blk a17]) (R := [M]) he20 (fun b hb => hsb2 b (fl_left' (P := [blk a17]) b hb)) hfn20 hnp20 (fun x hx => hsb2 x (fl_right' (P := [blk a17]) x hx))
 have hsn : ∀ x ∈ fl [blk a17, M], x ∈ fl ([] ++ ([blk a17] ++ [M])) := pick_sub [some 0, some 1] _ rfl
 have hst := hst0.res hsn
 replace hf7_1 := hf7_1.step hst
 replace hj12_j10 := hj12_j10.step hst
 replace hms : MS w20 [blk a17, M] := (MS.call (P := [blk a17]) (R := [M]) (res := []) (par := [blk a17]) hpk2 he20 hmn20 hfn20 hnp20).pick [some 0, some 1] _ rfl
 have hPf : ∀ b ∈ fl [blk a17], w.heap.size ≤ b := FR.mem (ls := [blk a17]) (hfr.pick [some 0] _ rfl)
 have hfr2 : FR w.heap.size [blk a17] := (FR.cons (fun b hb => (hnp20.at 0 rfl b hb).elim (fun h => hPf b h) (fun h => Nat.le_trans hev.size h)) (FR.nil _))
 replace hev := hev.then he20 (fun b hb => .inr (hPf b hb))
 replace hfr := hfr2
 clear hfr2
 replace ho17 := OwnS.plain (M' := fl [blk a17, M]) plain_bool hp20_0
 clear hpk hsb hsb0 hpk2 hsb2 hst0 hsn hst
 have hgl := guard_l h
 replace h := guard_r h
 have hsl : (Value.slice a17 ((List.replicate (Int.toNat ((d12_j10).length : Int)) false : List Bool)).length c17) = (Value.slice a17 (x19.2).length c17) := by first | (rw [hgl]; done) | simp only [hgl]
 try rw [hsl]
 clear hsl
 refine x_binop (.bool ((x13.2.2 == 0) == x19.1)) (.bool (x13.2.2 == 0)) (.bool x19.1) rfl rfl rfl rfl (vb_booleql tbool4) ?_
 refine x_pure 1 [(37, .bool ((x13.2.2 == 0) == x19.1))] _ _ _ (by kernel_rfl) ?_
 refine x_split 37 ((x13.2.2 == 0) == x19.1) rfl (fun hb => ?_) (fun hb => ?_)
 · replace h := ite_t hb h
   obtain ⟨x21, hx, h⟩ := bind_some h
   have hcall := law16_sane_w _ w20 hx
   refine x_call 9 #[] #[] [] _ rfl rfl rfl rfl hcall ?_
   rintro v w22 ⟨rfl, he22⟩
   clear hcall hx
   refine inl1 ?_
   have hst := Stp.ext (ls := [blk a17, M]) he22
   replace hf7_1 := hf7_1.step hst
   replace hj12_j10 := hj12_j10.step hst
   replace ho17 := ho17.step hst he22 nn2
   replace hms := hms.ev he22
   replace hev := hev.ext he22
   refine x_pure 2 [(39, .bool x21), (2, .bool x21)] _ _ _ (by kernel_rfl) ?_
   refine x_ek ?_
   refine c_norm [(2, .bool x21)] ⟨rfl, trivial⟩ (fun J => ?_)
   refine c_ret ?_
   refine r_ret (r_vals [.bool x21] ⟨rfl, trivial⟩ ?_)
   have hx := some_inj h
   subst hx
   have hmr : MS w22 [M] := hms.pick [some 1] _ rfl
   have hsu : ∀ x ∈ fl [M], x ∈ fl [blk a17, M] := pick_sub [some 1] _ rfl
   exact ⟨rfl, hev⟩
 replace h := ite_f hb h
 refine x_pure 3 [(38, undef), (39, .bool false), (2, .bool false)] _ _ _ (by kernel_rfl) ?_
 refine x_ek ?_
 refine c_norm [(2, .bool false)] ⟨rfl, trivial⟩ (fun J => ?_)
 refine c_ret ?_
 refine r_ret (r_vals [.bool false] ⟨rfl, trivial⟩ ?_)
 have hx := some_inj h
 subst hx
 have hmr : MS w20 [M] := hms.pick [some 1] _ rfl
 have hsu : ∀ x ∈ fl [M], x ∈ fl [blk a17, M] := pick_sub [some 1] _ rfl
 exact ⟨rfl, hev⟩
end Go.Proofs.Ytdbomhhcebmkpaa
