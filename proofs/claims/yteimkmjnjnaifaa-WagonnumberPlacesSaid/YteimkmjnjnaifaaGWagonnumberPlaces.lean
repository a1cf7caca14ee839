/- Walks, printed by program: each function returns what the partial function of the same name returns. Conditions: those of each theorem. -/
import Derived.Test.YteimkmjnjnaifaaGT
import Derived.Test.YteimkmjnjnaifaaGgen
import Derived.Test.YteimkmjnjnaifaaGlaw02sane
import Derived.Test.YteimkmjnjnaifaaGwagonnumber
set_option linter.unusedVariables false
set_option linter.unusedSimpArgs false
set_option maxRecDepth 4000
namespace Go.Proofs.Yteimkmjnjnaifaa
open Go Go.V Go.Proofs
def law02_WagonnumberPlaces_L18 (x6 : (List UInt8) × Int) (i_s8_l15 : Int) (s : Int × Int) : Option (Step (Int × Int) Int) :=
match s with
| (n_s9_l18, v_d_s10_l18) =>
(if (decide (v_d_s10_l18 < 10)) = true then
(if 0 ≤ ((0 : Int) : Int) ∧ ((0 : Int) : Int) ≤ (i_s8_l15 : Int) ∧ (i_s8_l15 : Int) ≤ (x6.1.length : Int) then
(if 0 ≤ (IntKind.i64.wrap (i_s8_l15 + 1) : Int) ∧ (IntKind.i64.wrap (i_s8_l15 + 1) : Int) ≤ ((x6.1.length : Int) : Int) ∧ ((x6.1.length : Int) : Int) ≤ (x6.1.length : Int) then
(if ((x6.1.drop (Int.toNat (0 : Int))).take (Int.toNat i_s8_l15 - Int.toNat (0 : Int))).length + (ofB ([IntKind.u8.wrap (IntKind.i64.wrap (48 + v_d_s10_l18))])).length ≤ 4294967296 then
(if (((x6.1.drop (Int.toNat (0 : Int))).take (Int.toNat i_s8_l15 - Int.toNat (0 : Int))) ++ (ofB ([IntKind.u8.wrap (IntKind.i64.wrap (48 + v_d_s10_l18))]))).length + ((x6.1.drop (Int.toNat (IntKind.i64.wrap (i_s8_l15 + 1)))).take (Int.toNat (x6.1.length : Int) - Int.toNat (IntKind.i64.wrap (i_s8_l15 + 1)))).length ≤ 4294967296 then
(if (((((x6.1.drop (Int.toNat (0 : Int))).take (Int.toNat i_s8_l15 - Int.toNat (0 : Int))) ++ (ofB ([IntKind.u8.wrap (IntKind.i64.wrap (48 + v_d_s10_l18))]))) ++ ((x6.1.drop (Int.toNat (IntKind.i64.wrap (i_s8_l15 + 1)))).take (Int.toNat (x6.1.length : Int) - Int.toNat (IntKind.i64.wrap (i_s8_l15 + 1))))) != x6.1) = true then
((wagonnumber_Valid ((((x6.1.drop (Int.toNat (0 : Int))).take (Int.toNat i_s8_l15 - Int.toNat (0 : Int))) ++ (ofB ([IntKind.u8.wrap (IntKind.i64.wrap (48 + v_d_s10_l18))]))) ++ ((x6.1.drop (Int.toNat (IntKind.i64.wrap (i_s8_l15 + 1)))).take (Int.toNat (x6.1.length : Int) - Int.toNat (IntKind.i64.wrap (i_s8_l15 + 1)))))).bind fun x22 =>
(if (x22 == 0) = true then
some (.next (IntKind.i64.wrap (n_s9_l18 + 1), IntKind.i64.wrap (v_d_s10_l18 + 1)))
else
some (.next (n_s9_l18, IntKind.i64.wrap (v_d_s10_l18 + 1)))))
else
some (.next (n_s9_l18, IntKind.i64.wrap (v_d_s10_l18 + 1))))
else none)
else none)
else none)
else none)
else
some (.done n_s9_l18))

def law02_WagonnumberPlaces_L15 (x6 : (List UInt8) × Int) (x8 : Int) (s : Int × Int) : Option (Step (Int × Int) (Unit ⊕ Int)) :=
match s with
| (single_s7_l15, i_s8_l15) =>
(if (decide (i_s8_l15 < 12)) = true then
((loop (law02_WagonnumberPlaces_L18 x6 i_s8_l15) (0, 0)).bind fun d => match d with
| n_s9_x18 => (if (x8 == 0) = true then
(if (n_s9_x18 != 0) = true then
some (.done (.inl ()))
else
(if (!(x8 == 0)) = true then
(if (n_s9_x18 != 1) = true then
some (.done (.inl ()))
else
some (.next (IntKind.i64.wrap (single_s7_l15 + n_s9_x18), IntKind.i64.wrap (i_s8_l15 + 1))))
else
some (.next (IntKind.i64.wrap (single_s7_l15 + n_s9_x18), IntKind.i64.wrap (i_s8_l15 + 1)))))
else
(if (!(x8 == 0)) = true then
(if (n_s9_x18 != 1) = true then
some (.done (.inl ()))
else
some (.next (IntKind.i64.wrap (single_s7_l15 + n_s9_x18), IntKind.i64.wrap (i_s8_l15 + 1))))
else
some (.next (IntKind.i64.wrap (single_s7_l15 + n_s9_x18), IntKind.i64.wrap (i_s8_l15 + 1))))))
else
some (.done (.inr single_s7_l15)))

def law02_WagonnumberPlaces (p0 : List Int) : Option Bool :=
((gen_New p0).bind fun x2 =>
((gen_Maker_Digits x2.1 x2.2 12).bind fun x6 =>
((wagonnumber_Valid x6.1).bind fun x8 =>
((wagonnumber_Repairs x6.1).bind fun x10 =>
(if (x10.2 != 0) = true then
some false
else
((loop (law02_WagonnumberPlaces_L15 x6 x8) (0, 0)).bind fun d => match d with
| (.inl _) => some false
| (.inr single_s7_x1501) => (if (decide (((x10.1).length : Int) ≥ single_s7_x1501)) = true then
((law02_sane).bind fun x24 =>
some x24)
else
some false)))))))

theorem law02_WagonnumberPlaces_w (a_p0 : Option Addr) (c_p0 : Nat) (p0 : List Int) (r : Bool) (w : World) (M : List Nat) (hms : MS w [M]) (hs_p0 : SlR (eInt .i64) w (fl [M]) a_p0 c_p0 p0) (h : law02_WagonnumberPlaces p0 = some r) : CallVC Try.prog 4 [.slice a_p0 (p0).length c_p0] w fun v w' => v = .bool r ∧ Ev [] w w' := by
 refine calls_vc hmx Try.func4 (by kernel_rfl) rfl (rs := [.tmp 2]) rfl (by kernel_rfl) (args := [.slice a_p0 (p0).length c_p0]) rfl ?_
 have hev : Ev [] w w := Ev.refl _ _
 have hfr : FR w.heap.size [] := FR.nil _
 refine c_sp ?_
 refine x_pure 1 [(2, .bool false)] _ _ _ (by kernel_rfl) ?_
 refine x_ek ?_
 refine c_sp ?_
 refine x_pure 1 [(12, .slice a_p0 (p0).length c_p0)] _ _ _ (by kernel_rfl) ?_
 obtain ⟨x2, hx, h⟩ := bind_some h
 have hpk : MS w ([] ++ [M]) := hms.pick [some 0] _ rfl
 have hsb0 : ∀ x ∈ fl ([] ++ [M]), x ∈ fl [M] := pick_sub [some 0] _ rfl
 have hsb : ∀ x ∈ fl ([] ++ [(fl [M])]), x ∈ fl [M] := fun x hx => hsb0 x (fl_unfold x hx)
 have hcall := gen_New_w a_p0 c_p0 p0 _ w (fl [M]) (MS.fold (P := []) hpk) (hs_p0.sub hsb) hx
 refine x_call 9 #[] #[] [.slice a_p0 (p0).length c_p0] _ rfl rfl rfl rfl hcall ?_
 rintro v w3 ⟨b0_3, a1_3, c1_3, rfl, he3, hmn3, hfn3, hf3_1, hf3_2⟩
 clear hcall hx
 refine inl1 ?_
 have hpk2 : MS w ([] ++ [M]) := hms.pick [some 0] _ rfl
 have hsb2 : ∀ x ∈ fl ([] ++ [M]), x ∈ fl [M] := pick_sub [some 0] _ rfl
 have hst0 := Stp.call (LS := [M]) (res := [[b0_3]]) (par := []) (R := [M]) he3 (fun b hb => hsb2 b (fl_left' (P := []) b hb)) hfn3 (NP.init _ _) (fun x hx => hsb2 x (fl_right' (P := []) x hx))
 have hsn : ∀ x ∈ fl [[b0_3], M], x ∈ fl ([[b0_3]] ++ ([] ++ [M])) := pick_sub [some 0, some 1] _ rfl
 have hst := hst0.res hsn
 replace hs_p0 := hs_p0.step hst
 replace hms : MS w3 [[b0_3], M] := (MS.call (P := []) (R := [M]) (res := [[b0_3]]) (par := []) hpk2 he3 hmn3 hfn3 (NP.init _ _)).pick [some 0, some 1] _ rfl
 have hfr2 : FR w.heap.size [[b0_3]] := (FR.cons (fun b hb => Nat.le_trans hev.size (hfn3.at 0 rfl b hb)) (FR.nil _))
 replace hev := hev.ext he3
 replace hfr := hfr2
 clear hfr2
 have hsp : ∀ x ∈ fl [[b0_3], M], x ∈ fl ([[b0_3]] ++ ([] ++ [(fl [M])])) := fun x hx => fl_tot (res := [[b0_3]]) (par := []) (R := [M]) x (hsn x hx)
 replace hf3_2 := hf3_2.sub hsp
 clear hpk hsb hsb0 hpk2 hsb2 hst0 hsn hst
 obtain ⟨x6, hx, h⟩ := bind_some h
 have hpk : MS w3 ([[b0_3]] ++ [M]) := hms.pick [some 0, some 1] _ rfl
 have hsb0 : ∀ x ∈ fl ([[b0_3]] ++ [M]), x ∈ fl [[b0_3], M] := pick_sub [some 0, some 1] _ rfl
 have hsb : ∀ x ∈ fl ([[b0_3]] ++ [(fl [M])]), x ∈ fl [[b0_3], M] := fun x hx => hsb0 x (fl_unfold x hx)
 have hcall := gen_Maker_Digits_w b0_3 a1_3 c1_3 x2.1 x2.2 12 _ w3 (fl [M]) (hpk.fold (P := [[b0_3]])) (hf3_2.sub hsb) hf3_1 hx
 refine x_call 14 #[] #[] [Vp b0_3 0, Vi 12] _ rfl rfl rfl rfl hcall ?_
 rintro v w7 ⟨rfl, he7, hp7_0⟩
 clear hcall hx
 refine inl1 ?_
 have hpk2 : MS w3 ([[b0_3]] ++ [M]) := hms.pick [some 0, some 1] _ rfl
 have hsb2 : ∀ x ∈ fl ([[b0_3]] ++ [M]), x ∈ fl [[b0_3], M] := pick_sub [some 0, some 1] _ rfl
 have hst0 := Stp.call (LS := [[b0_3], M]) (res := []) (par := [[b0_3]]) (R := [M]) he7 (fun b hb => hsb2 b (fl_left' (P := [[b0_3]]) b hb)) (FR.nil _) (NP.init _ _) (fun x hx => hsb2 x (fl_right' (P := [[b0_3]]) x hx))
 have hsn : ∀ x ∈ fl [[b0_3], M], x ∈ fl ([] ++ ([[b0_3]] ++ [M])) := pick_sub [some 0, some 1] _ rfl
 have hst := hst0.res hsn
 replace hs_p0 := hs_p0.step hst
 replace hf3_2 := hf3_2.step hst
 replace hms := hms.ev he7
 have hPf : ∀ b ∈ fl [[b0_3]], w.heap.size ≤ b := FR.mem (ls := [[b0_3]]) (hfr.pick [some 0] _ rfl)
 replace hev := hev.then he7 (fun b hb => .inr (hPf b hb))
 replace hf3_1 := hp7_0
 clear hpk hsb hsb0 hpk2 hsb2 hst0 hsn hst
 refine x_pure 1 [(3, Vs x6.1)] _ _ _ (by kernel_rfl) ?_
 refine x_ek ?_
 refine c_sp ?_
 refine x_pure 1 [(15, Vs x6.1)] _ _ _ (by kernel_rfl) ?_
 obtain ⟨x8, hx, h⟩ := bind_some h
 have hcall := wagonnumber_Valid_w x6.1 _ w7 hx
 refine x_call 11 #[] #[] [Vs x6.1] _ rfl rfl rfl rfl hcall ?_
 rintro v w9 ⟨rfl, he9⟩
 clear hcall hx
 refine inl1 ?_
 have hst := Stp.ext (ls := [[b0_3], M]) he9
 replace hf3_1 := he9.box hf3_1 nn
 replace hf3_2 := hf3_2.step hst
 replace hms := hms.ev he9
 replace hev := hev.ext he9
 refine x_pure 2 [(17, .bool (x8 == 0)), (4, .bool (x8 == 0))] _ _ _ (by kernel_rfl) ?_
 refine x_ek ?_
 refine c_sp ?_
 refine x_pure 1 [(19, Vs x6.1)] _ _ _ (by kernel_rfl) ?_
 obtain ⟨x10, hx, h⟩ := bind_some h
 have hpk : MS w9 ([] ++ [[b0_3], M]) := hms.pick [some 0, some 1] _ rfl
 have hsb0 : ∀ x ∈ fl ([] ++ [[b0_3], M]), x ∈ fl [[b0_3], M] := pick_sub [some 0, some 1] _ rfl
 have hsb : ∀ x ∈ fl ([] ++ [(fl [[b0_3], M])]), x ∈ fl [[b0_3], M] := fun x hx => hsb0 x (fl_unfold x hx)
 have hcall := wagonnumber_Repairs_w x6.1 _ w9 (fl [[b0_3], M]) (MS.fold (P := []) hpk)  hx
 refine x_call 12 #[] #[] [Vs x6.1] _ rfl rfl rfl rfl hcall ?_
 rintro v w11 ⟨a0_11, c0_11, rfl, he11, hmn11, hfn11, hf11_1⟩
 clear hcall hx
 refine inl1 ?_
 have hpk2 : MS w9 ([] ++ [[b0_3], M]) := hms.pick [some 0, some 1] _ rfl
 have hsb2 : ∀ x ∈ fl ([] ++ [[b0_3], M]), x ∈ fl [[b0_3], M] := pick_sub [some 0, some 1] _ rfl
 have hst0 := Stp.call (LS := [[b0_3], M]) (res := [blk a0_11]) (par := []) (R := [[b0_3], M]) he11 (fun b hb => hsb2 b (fl_left' (P := []) b hb)) hfn11 (NP.init _ _) (fun x hx => hsb2 x (fl_right' (P := []) x hx))
 have hsn : ∀ x ∈ fl [blk a0_11, [b0_3], M], x ∈ fl ([blk a0_11] ++ ([] ++ [[b0_3], M])) := pick_sub [some 0, some 1, some 2] _ rfl
 have hst := hst0.res hsn
 replace hf3_1 := he11.box hf3_1 ((MS.outs (P := []) hpk2 0 rfl) _ mem1)
 replace hf3_2 := hf3_2.step hst
 replace hms : MS w11 [blk a0_11, [b0_3], M] := (MS.call (P := []) (R := [[b0_3], M]) (res := [blk a0_11]) (par := []) hpk2 he11 hmn11 hfn11 (NP.init _ _)).pick [some 0, some 1, some 2] _ rfl
 have hfr2 : FR w.heap.size [blk a0_11, [b0_3]] := (FR.cons (fun b hb => Nat.le_trans hev.size (hfn11.at 0 rfl b hb)) (FR.cons (hfr.at 0 rfl) (FR.nil _)))
 replace hev := hev.ext he11
 replace hfr := hfr2
 clear hfr2
 replace hf11_1 := OwnS.plain (M' := fl [blk a0_11, [b0_3], M]) plain_str hf11_1
 clear hpk hsb hsb0 hpk2 hsb2 hst0 hsn hst
 have hpk : MS w11 [[b0_3], M] := hms.pick [some 1, some 2] _ rfl
 have hsu : ∀ x ∈ fl [[b0_3], M], x ∈ fl [blk a0_11, [b0_3], M] := pick_sub [some 1, some 2] _ rfl
 replace hf3_2 := hf3_2.sub hsu
 replace hf11_1 := hf11_1.ro hsu (pick_out hms 0 rfl [some 1, some 2] [[b0_3], M] rfl rfl)
 replace hms := hpk
 replace hfr : FR w.heap.size [[b0_3]] := hfr.pick [some 1] _ rfl
 clear hpk hsu
 refine x_pure 5 [(18, .tuple #[.slice a0_11 (x10.1).length c0_11, Vi x10.2]), (21, .slice a0_11 (x10.1).length c0_11), (22, Vi x10.2), (5, .slice a0_11 (x10.1).length c0_11), (6, Vi x10.2)] _ _ _ (by kernel_rfl) ?_
 refine x_ek ?_
 refine c_norm [(3, Vs x6.1), (4, .bool (x8 == 0)), (5, .slice a0_11 (x10.1).length c0_11), (6, Vi x10.2)] ⟨rfl, rfl, rfl, rfl, trivial⟩ (fun J => ?_)
 refine c_seq ?_
 refine c_sp ?_
 refine x_pure 2 [(23, Vi x10.2), (24, .bool (x10.2 != 0))] _ _ _ (by kernel_rfl) ?_
 refine x_ek ?_
 refine c_cond (x10.2 != 0) rfl (fun hb => ?_) (fun hb => ?_)
 · replace h := ite_t hb h
   refine c_sp ?_
   refine x_pure 1 [(2, .bool false)] _ _ _ (by kernel_rfl) ?_
   refine x_ek ?_
   refine c_ret ?_
   refine k_then_ret ?_
   refine r_ret (r_vals [.bool false] ⟨rfl, trivial⟩ ?_)
   have hx := some_inj h
   subst hx
   have hmr : MS w11 [M] := hms.pick [some 1] _ rfl
   have hsu : ∀ x ∈ fl [M], x ∈ fl [[b0_3], M] := pick_sub [some 1] _ rfl
   exact ⟨rfl, hev⟩
 replace h := ite_f hb h
 refine c_skip ?_
 refine k_then ?_
 refine c_sp ?_
 refine x_pure 1 [(7, Vi 0)] _ _ _ (by kernel_rfl) ?_
 refine x_ek ?_
 refine c_seq ?_
 refine c_sp ?_
 refine x_pure 1 [(8, Vi 0)] _ _ _ (by kernel_rfl) ?_
 refine x_ek ?_
 refine c_block ?_
 have hpk : MS w11 [M] := hms.pick [some 1] _ rfl
 have hsu : ∀ x ∈ fl [M], x ∈ fl [[b0_3], M] := pick_sub [some 1] _ rfl
 replace hf11_1 := hf11_1.sub hsu
 replace hms := hpk
 replace hfr : FR w.heap.size [] := hfr.pick [] _ rfl
 clear hpk hsu
 obtain ⟨d15, hd15, h15⟩ := bind_some h
 obtain ⟨m15, hd15⟩ := loop_some hd15
 refine c_loop (loop_rule hmx (σ := Nat × Int × Int) (fun s => match s with | (_, single_s7_l15, i_s8_l15) => [(3, Vs x6.1), (4, .bool (x8 == 0)), (5, .slice a0_11 (x10.1).length c0_11), (7, Vi single_s7_l15), (8, Vi i_s8_l15)]) (fun s w' => match s with | (m, single_s7_l15, i_s8_l15) => loopN (law02_WagonnumberPlaces_L15 x6 x8) m (single_s7_l15, i_s8_l15) = some d15 ∧ Ev [] w w' ∧ MS w' [M] ∧ FR w.heap.size [] ∧ SlR eStr w' (fl [M]) a0_11 c0_11 x10.1) (fun s => s.1) (m15, 0, 0) ⟨rfl, rfl, rfl, rfl, rfl, trivial⟩ ⟨hd15, hev, hms, hfr, hf11_1⟩ ?_)
 rintro ⟨m15, single_s7_l15, i_s8_l15⟩ J wl15 ⟨hn15, hev, hms, hfr, hf11_1⟩
 rcases m15 with _ | m15
 · exact (loopN_zero hn15).elim
 obtain ⟨t15, h, hn15⟩ := bind_some hn15
 refine c_seq ?_
 refine c_sp ?_
 refine x_pure 2 [(25, Vi i_s8_l15), (26, .bool (decide (i_s8_l15 < 12)))] _ _ _ (by kernel_rfl) ?_
 refine x_ek ?_
 refine c_norm [(3, Vs x6.1), (4, .bool (x8 == 0)), (5, .slice a0_11 (x10.1).length c0_11), (7, Vi single_s7_l15), (8, Vi i_s8_l15), (26, .bool (decide (i_s8_l15 < 12)))] ⟨rfl, rfl, rfl, rfl, rfl, rfl, trivial⟩ (fun J => ?_)
 refine c_cond (decide (i_s8_l15 < 12)) rfl (fun hb => ?_) (fun hb => ?_)
 · replace h := ite_t hb h
   refine c_skip ?_
   refine k_then ?_
   refine c_seq ?_
   refine c_block ?_
   refine c_sp ?_
   refine x_pure 1 [(9, Vi 0)] _ _ _ (by kernel_rfl) ?_
   refine x_ek ?_
   refine c_seq ?_
   refine c_sp ?_
   refine x_pure 1 [(10, Vi 0)] _ _ _ (by kernel_rfl) ?_
   refine x_ek ?_
   refine c_block ?_
   obtain ⟨d18, hd18, h18⟩ := bind_some h
   obtain ⟨m18, hd18⟩ := loop_some hd18
   refine c_loop (loop_rule hmx (σ := Nat × Int × Int) (fun s => match s with | (_, n_s9_l18, v_d_s10_l18) => [(3, Vs x6.1), (4, .bool (x8 == 0)), (5, .slice a0_11 (x10.1).length c0_11), (7, Vi single_s7_l15), (8, Vi i_s8_l15), (9, Vi n_s9_l18), (10, Vi v_d_s10_l18)]) (fun s w' => match s with | (m, n_s9_l18, v_d_s10_l18) => loopN (law02_WagonnumberPlaces_L18 x6 i_s8_l15) m (n_s9_l18, v_d_s10_l18) = some d18 ∧ Ev [] w w' ∧ MS w' [M] ∧ FR w.heap.size [] ∧ SlR eStr w' (fl [M]) a0_11 c0_11 x10.1) (fun s => s.1) (m18, 0, 0) ⟨rfl, rfl, rfl, rfl, rfl, rfl, rfl, trivial⟩ ⟨hd18, hev, hms, hfr, hf11_1⟩ ?_)
   rintro ⟨m18, n_s9_l18, v_d_s10_l18⟩ J wl18 ⟨hn18, hev, hms, hfr, hf11_1⟩
   rcases m18 with _ | m18
   · exact (loopN_zero hn18).elim
   obtain ⟨t18, h, hn18⟩ := bind_some hn18
   refine c_seq ?_
   refine c_sp ?_
   refine x_pure 2 [(29, Vi v_d_s10_l18), (30, .bool (decide (v_d_s10_l18 < 10)))] _ _ _ (by kernel_rfl) ?_
   refine x_ek ?_
   refine c_norm [(3, Vs x6.1), (4, .bool (x8 == 0)), (5, .slice a0_11 (x10.1).length c0_11), (7, Vi single_s7_l15), (8, Vi i_s8_l15), (9, Vi n_s9_l18), (10, Vi v_d_s10_l18), (30, .bool (decide (v_d_s10_l18 < 10)))] ⟨rfl, rfl, rfl, rfl, rfl, rfl, rfl, rfl, trivial⟩ (fun J => ?_)
   refine c_cond (decide (v_d_s10_l18 < 10)) rfl (fun hb => ?_) (fun hb => ?_)
   · replace h := ite_t hb h
     refine c_skip ?_
     refine k_then ?_
     refine c_seq ?_
     refine c_block ?_
     refine c_seq ?_
     refine c_drawn [] [(0, false), (1, false), (2, false), (3, false), (4, false), (9, false), (10, false), (11, false), (12, false), (5, false), (6, false), (7, false), (8, false), (13, false), (14, false)] _ (by kernel_rfl) rfl ?_
     have hst := Stp.ext (ls := [M]) (Ev.drew wl18)
     replace hf11_1 := hf11_1.step hst
     replace hms := hms.ev (Ev.drew wl18)
     replace hev := hev.ext (Ev.drew wl18)
     refine x_pure 2 [(33, Vs x6.1), (34, Vi i_s8_l15)] _ _ _ (by kernel_rfl) ?_
     have hg := guard_l h
     replace h := guard_r h
     refine x_slice (xv := Vs x6.1) (lv := none) (hv := (some (Vi i_s8_l15))) (mv := none) (Vs ((x6.1.drop (Int.toNat (0 : Int))).take (Int.toNat i_s8_l15 - Int.toNat (0 : Int)))) rfl rfl rfl rfl rfl rfl (reads_scut tstr9 _ none (some i_s8_l15) hg) ?_
     refine x_pure 5 [(36, Vi v_d_s10_l18), (37, Vi (IntKind.i64.wrap (48 + v_d_s10_l18))), (42, Vs x6.1), (43, Vi i_s8_l15), (44, Vi (IntKind.i64.wrap (i_s8_l15 + 1)))] _ _ _ (by kernel_rfl) ?_
     have hg := guard_l h
     replace h := guard_r h
     refine x_slice (xv := Vs x6.1) (lv := (some (Vi (IntKind.i64.wrap (i_s8_l15 + 1))))) (hv := none) (mv := none) (Vs ((x6.1.drop (Int.toNat (IntKind.i64.wrap (i_s8_l15 + 1)))).take (Int.toNat (x6.1.length : Int) - Int.toNat (IntKind.i64.wrap (i_s8_l15 + 1))))) rfl rfl rfl rfl rfl rfl (reads_scut tstr9 _ (some (IntKind.i64.wrap (i_s8_l15 + 1))) none hg) ?_
     refine x_convert (.int .u8 (IntKind.u8.wrap (IntKind.i64.wrap (48 + v_d_s10_l18)))) _ rfl rfl rfl (tcv3_5 (IntKind.i64.wrap (48 + v_d_s10_l18)) _) ?_
     refine ⟨.inr (Ev.refl _ _), ?_⟩
     refine x_buildSlice (vs := [(0, .int .u8 (IntKind.u8.wrap (IntKind.i64.wrap (48 + v_d_s10_l18))))]) #[.int .u8 (IntKind.u8.wrap (IntKind.i64.wrap (48 + v_d_s10_l18)))] 5 rfl rfl rfl (by kernel_rfl) (fun b20 w20 hq20 hb20 he20 hz20 => ?_)
     refine ⟨.inr he20, ?_⟩
     have hms0 := hms
     have hst := Stp.ext (ls := [M]) he20
     replace hf11_1 := hf11_1.step hst
     replace hms := hms.ev he20
     replace hev := hev.ext he20
     have hs20 : SlR (eInt .u8) w20 (fl [M]) (Ad b20 0) 1 ([IntKind.u8.wrap (IntKind.i64.wrap (48 + v_d_s10_l18))]) := ro_of_box hms0 hq20 hb20 rfl rfl (cells_at (cs := [.int .u8 (IntKind.u8.wrap (IntKind.i64.wrap (48 + v_d_s10_l18)))]) (CellsOf.cons (c := [.int .u8 (IntKind.u8.wrap (IntKind.i64.wrap (48 + v_d_s10_l18)))]) rfl CellsOf.nil))
     clear hb20 hms0
     refine x_convert (xv := .slice (Ad b20 0) ([IntKind.u8.wrap (IntKind.i64.wrap (48 + v_d_s10_l18))]).length 1) (Vs (ofB ([IntKind.u8.wrap (IntKind.i64.wrap (48 + v_d_s10_l18))]))) _ rfl rfl rfl (run_ofB tuns26 tint5 tstr9 hs20) ?_
     refine ⟨.inr (Ev.refl _ _), ?_⟩
     refine x_binop (Vs (((x6.1.drop (Int.toNat (0 : Int))).take (Int.toNat i_s8_l15 - Int.toNat (0 : Int))) ++ (ofB ([IntKind.u8.wrap (IntKind.i64.wrap (48 + v_d_s10_l18))])))) (Vs ((x6.1.drop (Int.toNat (0 : Int))).take (Int.toNat i_s8_l15 - Int.toNat (0 : Int)))) (Vs (ofB ([IntKind.u8.wrap (IntKind.i64.wrap (48 + v_d_s10_l18))]))) rfl rfl rfl rfl (bin_sadd (guard_l h)) ?_
     replace h := guard_r h
     refine x_binop (Vs ((((x6.1.drop (Int.toNat (0 : Int))).take (Int.toNat i_s8_l15 - Int.toNat (0 : Int))) ++ (ofB ([IntKind.u8.wrap (IntKind.i64.wrap (48 + v_d_s10_l18))]))) ++ ((x6.1.drop (Int.toNat (IntKind.i64.wrap (i_s8_l15 + 1)))).take (Int.toNat (x6.1.length : Int) - Int.toNat (IntKind.i64.wrap (i_s8_l15 + 1)))))) (Vs (((x6.1.drop (Int.toNat (0 : Int))).take (Int.toNat i_s8_l15 - Int.toNat (0 : Int))) ++ (ofB ([IntKind.u8.wrap (IntKind.i64.wrap (48 + v_d_s10_l18))])))) (Vs ((x6.1.drop (Int.toNat (IntKind.i64.wrap (i_s8_l15 + 1)))).take (Int.toNat (x6.1.length : Int) - Int.toNat (IntKind.i64.wrap (i_s8_l15 + 1))))) rfl rfl rfl rfl (bin_sadd (guard_l h)) ?_
     replace h := guard_r h
     refine x_pure 1 [(11, Vs ((((x6.1.drop (Int.toNat (0 : Int))).take (Int.toNat i_s8_l15 - Int.toNat (0 : Int))) ++ (ofB ([IntKind.u8.wrap (IntKind.i64.wrap (48 + v_d_s10_l18))]))) ++ ((x6.1.drop (Int.toNat (IntKind.i64.wrap (i_s8_l15 + 1)))).take (Int.toNat (x6.1.length : Int) - Int.toNat (IntKind.i64.wrap (i_s8_l15 + 1))))))] _ _ _ (by kernel_rfl) ?_
     refine x_ek ?_
     refine c_norm [(3, Vs x6.1), (4, .bool (x8 == 0)), (5, .slice a0_11 (x10.1).length c0_11), (7, Vi single_s7_l15), (8, Vi i_s8_l15), (9, Vi n_s9_l18), (10, Vi v_d_s10_l18), (11, Vs ((((x6.1.drop (Int.toNat (0 : Int))).take (Int.toNat i_s8_l15 - Int.toNat (0 : Int))) ++ (ofB ([IntKind.u8.wrap (IntKind.i64.wrap (48 + v_d_s10_l18))]))) ++ ((x6.1.drop (Int.toNat (IntKind.i64.wrap (i_s8_l15 + 1)))).take (Int.toNat (x6.1.length : Int) - Int.toNat (IntKind.i64.wrap (i_s8_l15 + 1))))))] ⟨rfl, rfl, rfl, rfl, rfl, rfl, rfl, rfl, trivial⟩ (fun J => ?_)
     refine c_sp ?_
     refine x_pure 2 [(47, Vs ((((x6.1.drop (Int.toNat (0 : Int))).take (Int.toNat i_s8_l15 - Int.toNat (0 : Int))) ++ (ofB ([IntKind.u8.wrap (IntKind.i64.wrap (48 + v_d_s10_l18))]))) ++ ((x6.1.drop (Int.toNat (IntKind.i64.wrap (i_s8_l15 + 1)))).take (Int.toNat (x6.1.length : Int) - Int.toNat (IntKind.i64.wrap (i_s8_l15 + 1)))))), (48, Vs x6.1)] _ _ _ (by kernel_rfl) ?_
     refine x_binop (.bool (((((x6.1.drop (Int.toNat (0 : Int))).take (Int.toNat i_s8_l15 - Int.toNat (0 : Int))) ++ (ofB ([IntKind.u8.wrap (IntKind.i64.wrap (48 + v_d_s10_l18))]))) ++ ((x6.1.drop (Int.toNat (IntKind.i64.wrap (i_s8_l15 + 1)))).take (Int.toNat (x6.1.length : Int) - Int.toNat (IntKind.i64.wrap (i_s8_l15 + 1))))) != x6.1)) (Vs ((((x6.1.drop (Int.toNat (0 : Int))).take (Int.toNat i_s8_l15 - Int.toNat (0 : Int))) ++ (ofB ([IntKind.u8.wrap (IntKind.i64.wrap (48 + v_d_s10_l18))]))) ++ ((x6.1.drop (Int.toNat (IntKind.i64.wrap (i_s8_l15 + 1)))).take (Int.toNat (x6.1.length : Int) - Int.toNat (IntKind.i64.wrap (i_s8_l15 + 1)))))) (Vs x6.1) rfl rfl rfl rfl (bin_sne) ?_
     refine x_pure 1 [(50, .bool (((((x6.1.drop (Int.toNat (0 : Int))).take (Int.toNat i_s8_l15 - Int.toNat (0 : Int))) ++ (ofB ([IntKind.u8.wrap (IntKind.i64.wrap (48 + v_d_s10_l18))]))) ++ ((x6.1.drop (Int.toNat (IntKind.i64.wrap (i_s8_l15 + 1)))).take (Int.toNat (x6.1.length : Int) - Int.toNat (IntKind.i64.wrap (i_s8_l15 + 1))))) != x6.1))] _ _ _ (by kernel_rfl) ?_
     refine x_split 50 (((((x6.1.drop (Int.toNat (0 : Int))).take (Int.toNat i_s8_l15 - Int.toNat (0 : Int))) ++ (ofB ([IntKind.u8.wrap (IntKind.i64.wrap (48 + v_d_s10_l18))]))) ++ ((x6.1.drop (Int.toNat (IntKind.i64.wrap (i_s8_l15 + 1)))).take (Int.toNat (x6.1.length : Int) - Int.toNat (IntKind.i64.wrap (i_s8_l15 + 1))))) != x6.1) rfl (fun hb => ?_) (fun hb => ?_)
     · replace h := ite_t hb h
       refine x_pure 1 [(51, Vs ((((x6.1.drop (Int.toNat (0 : Int))).take (Int.toNat i_s8_l15 - Int.toNat (0 : Int))) ++ (ofB ([IntKind.u8.wrap (IntKind.i64.wrap (48 + v_d_s10_l18))]))) ++ ((x6.1.drop (Int.toNat (IntKind.i64.wrap (i_s8_l15 + 1)))).take (Int.toNat (x6.1.length : Int) - Int.toNat (IntKind.i64.wrap (i_s8_l15 + 1))))))] _ _ _ (by kernel_rfl) ?_
       obtain ⟨x22, hx, h⟩ := bind_some h
       have hcall := wagonnumber_Valid_w ((((x6.1.drop (Int.toNat (0 : Int))).take (Int.toNat i_s8_l15 - Int.toNat (0 : Int))) ++ (ofB ([IntKind.u8.wrap (IntKind.i64.wrap (48 + v_d_s10_l18))]))) ++ ((x6.1.drop (Int.toNat (IntKind.i64.wrap (i_s8_l15 + 1)))).take (Int.toNat (x6.1.length : Int) - Int.toNat (IntKind.i64.wrap (i_s8_l15 + 1))))) _ w20 hx
       refine x_call 11 #[] #[] [Vs ((((x6.1.drop (Int.toNat (0 : Int))).take (Int.toNat i_s8_l15 - Int.toNat (0 : Int))) ++ (ofB ([IntKind.u8.wrap (IntKind.i64.wrap (48 + v_d_s10_l18))]))) ++ ((x6.1.drop (Int.toNat (IntKind.i64.wrap (i_s8_l15 + 1)))).take (Int.toNat (x6.1.length : Int) - Int.toNat (IntKind.i64.wrap (i_s8_l15 + 1)))))] _ rfl rfl rfl rfl hcall ?_
       rintro v w23 ⟨rfl, he23⟩
       clear hcall hx
       refine inl1 ?_
       have hst := Stp.ext (ls := [M]) he23
       replace hf11_1 := hf11_1.step hst
       replace hms := hms.ev he23
       replace hev := hev.ext he23
       refine x_pure 2 [(53, .bool (x22 == 0)), (54, .bool (x22 == 0))] _ _ _ (by kernel_rfl) ?_
       refine x_ek ?_
       refine c_cond (x22 == 0) rfl (fun hb => ?_) (fun hb => ?_)
       · replace h := ite_t hb h
         refine c_plain ?_
         refine x_pure 3 [(55, Vi n_s9_l18), (56, Vi (IntKind.i64.wrap (n_s9_l18 + 1))), (9, Vi (IntKind.i64.wrap (n_s9_l18 + 1)))] _ _ _ (by kernel_rfl) ?_
         refine x_end rfl ?_
         refine k_block ?_
         refine k_then ?_
         refine c_plain ?_
         refine x_pure 3 [(31, Vi v_d_s10_l18), (32, Vi (IntKind.i64.wrap (v_d_s10_l18 + 1))), (10, Vi (IntKind.i64.wrap (v_d_s10_l18 + 1)))] _ _ _ (by kernel_rfl) ?_
         refine x_end rfl ?_
         have hx := some_inj h
         subst hx
         exact k_then ⟨(m18, IntKind.i64.wrap (n_s9_l18 + 1), IntKind.i64.wrap (v_d_s10_l18 + 1)), ⟨rfl, rfl, rfl, rfl, rfl, rfl, rfl, trivial⟩, ⟨hn18, hev, hms, hfr, hf11_1⟩, Nat.lt_succ_self _⟩
       replace h := ite_f hb h
       refine c_skip ?_
       refine k_block ?_
       refine k_then ?_
       refine c_plain ?_
       refine x_pure 3 [(31, Vi v_d_s10_l18), (32, Vi (IntKind.i64.wrap (v_d_s10_l18 + 1))), (10, Vi (IntKind.i64.wrap (v_d_s10_l18 + 1)))] _ _ _ (by kernel_rfl) ?_
       refine x_end rfl ?_
       have hx := some_inj h
       subst hx
       exact k_then ⟨(m18, n_s9_l18, IntKind.i64.wrap (v_d_s10_l18 + 1)), ⟨rfl, rfl, rfl, rfl, rfl, rfl, rfl, trivial⟩, ⟨hn18, hev, hms, hfr, hf11_1⟩, Nat.lt_succ_self _⟩
     replace h := ite_f hb h
     refine x_pure 4 [(51, undef), (52, undef), (53, undef), (54, .bool false)] _ _ _ (by kernel_rfl) ?_
     refine x_ek ?_
     refine c_false rfl ?_
     refine c_skip ?_
     refine k_block ?_
     refine k_then ?_
     refine c_plain ?_
     refine x_pure 3 [(31, Vi v_d_s10_l18), (32, Vi (IntKind.i64.wrap (v_d_s10_l18 + 1))), (10, Vi (IntKind.i64.wrap (v_d_s10_l18 + 1)))] _ _ _ (by kernel_rfl) ?_
     refine x_end rfl ?_
     have hx := some_inj h
     subst hx
     exact k_then ⟨(m18, n_s9_l18, IntKind.i64.wrap (v_d_s10_l18 + 1)), ⟨rfl, rfl, rfl, rfl, rfl, rfl, rfl, trivial⟩, ⟨hn18, hev, hms, hfr, hf11_1⟩, Nat.lt_succ_self _⟩
   replace h := ite_f hb h
   refine c_exit ?_
   refine k_then_exit ?_
   have hx := some_inj h
   subst hx
   have hy := some_inj hn18
   subst hy
   replace h := h18
   refine k_then_exit ?_
   refine k_block_in ?_
   refine k_then ?_
   refine c_norm [(3, Vs x6.1), (4, .bool (x8 == 0)), (5, .slice a0_11 (x10.1).length c0_11), (7, Vi single_s7_l15), (8, Vi i_s8_l15), (9, Vi n_s9_l18)] ⟨rfl, rfl, rfl, rfl, rfl, rfl, trivial⟩ (fun J => ?_)
   refine c_seq ?_
   refine c_sp ?_
   refine x_pure 2 [(57, .bool (x8 == 0)), (58, .bool (x8 == 0))] _ _ _ (by kernel_rfl) ?_
   refine x_split 58 (x8 == 0) rfl (fun hb => ?_) (fun hb => ?_)
   · replace h := ite_t hb h
     refine x_pure 4 [(59, Vi n_s9_l18), (60, .bool (n_s9_l18 != 0)), (61, .bool (n_s9_l18 != 0)), (62, .bool (n_s9_l18 != 0))] _ _ _ (by kernel_rfl) ?_
     refine x_split 62 (n_s9_l18 != 0) rfl (fun hb => ?_) (fun hb => ?_)
     · replace h := ite_t hb h
       refine x_pure 7 [(63, undef), (64, undef), (65, undef), (66, undef), (67, undef), (68, undef), (69, .bool true)] _ _ _ (by kernel_rfl) ?_
       refine x_ek ?_
       refine c_norm [(3, Vs x6.1), (4, .bool (x8 == 0)), (5, .slice a0_11 (x10.1).length c0_11), (7, Vi single_s7_l15), (8, Vi i_s8_l15), (9, Vi n_s9_l18), (69, .bool true)] ⟨rfl, rfl, rfl, rfl, rfl, rfl, rfl, trivial⟩ (fun J => ?_)
       refine c_true rfl ?_
       refine c_sp ?_
       refine x_pure 1 [(2, .bool false)] _ _ _ (by kernel_rfl) ?_
       refine x_ek ?_
       refine c_ret ?_
       refine k_then_ret ?_
       refine k_block_ret ?_
       refine k_then_ret ?_
       have hx := some_inj h
       subst hx
       have hy := some_inj hn15
       subst hy
       replace h := h15
       refine k_then_ret ?_
       refine k_block_ret ?_
       refine k_then_ret ?_
       refine r_ret (r_vals [.bool false] ⟨rfl, trivial⟩ ?_)
       have hx := some_inj h
       subst hx
       have hmr : MS wl18 [M] := hms.pick [some 0] _ rfl
       have hsu : ∀ x ∈ fl [M], x ∈ fl [M] := pick_sub [some 0] _ rfl
       exact ⟨rfl, hev⟩
     replace h := ite_f hb h
     refine x_pure 3 [(63, .bool (x8 == 0)), (64, .bool (!(x8 == 0))), (65, .bool (!(x8 == 0)))] _ _ _ (by kernel_rfl) ?_
     refine x_split 65 (!(x8 == 0)) rfl (fun hb => ?_) (fun hb => ?_)
     · replace h := ite_t hb h
       refine x_pure 4 [(66, Vi n_s9_l18), (67, .bool (n_s9_l18 != 1)), (68, .bool (n_s9_l18 != 1)), (69, .bool (n_s9_l18 != 1))] _ _ _ (by kernel_rfl) ?_
       refine x_ek ?_
       refine c_norm [(3, Vs x6.1), (4, .bool (x8 == 0)), (5, .slice a0_11 (x10.1).length c0_11), (7, Vi single_s7_l15), (8, Vi i_s8_l15), (9, Vi n_s9_l18), (69, .bool (n_s9_l18 != 1))] ⟨rfl, rfl, rfl, rfl, rfl, rfl, rfl, trivial⟩ (fun J => ?_)
       refine c_cond (n_s9_l18 != 1) rfl (fun hb => ?_) (fun hb => ?_)
       · replace h := ite_t hb h
         refine c_sp ?_
         refine x_pure 1 [(2, .bool false)] _ _ _ (by kernel_rfl) ?_
         refine x_ek ?_
         refine c_ret ?_
         refine k_then_ret ?_
         refine k_block_ret ?_
         refine k_then_ret ?_
         have hx := some_inj h
         subst hx
         have hy := some_inj hn15
         subst hy
         replace h := h15
         refine k_then_ret ?_
         refine k_block_ret ?_
         refine k_then_ret ?_
         refine r_ret (r_vals [.bool false] ⟨rfl, trivial⟩ ?_)
         have hx := some_inj h
         subst hx
         have hmr : MS wl18 [M] := hms.pick [some 0] _ rfl
         have hsu : ∀ x ∈ fl [M], x ∈ fl [M] := pick_sub [some 0] _ rfl
         exact ⟨rfl, hev⟩
       replace h := ite_f hb h
       refine c_skip ?_
       refine k_then ?_
       refine c_plain ?_
       refine x_pure 4 [(70, Vi single_s7_l15), (71, Vi n_s9_l18), (72, Vi (IntKind.i64.wrap (single_s7_l15 + n_s9_l18))), (7, Vi (IntKind.i64.wrap (single_s7_l15 + n_s9_l18)))] _ _ _ (by kernel_rfl) ?_
       refine x_end rfl ?_
       refine k_block ?_
       refine k_then ?_
       refine c_plain ?_
       refine x_pure 3 [(27, Vi i_s8_l15), (28, Vi (IntKind.i64.wrap (i_s8_l15 + 1))), (8, Vi (IntKind.i64.wrap (i_s8_l15 + 1)))] _ _ _ (by kernel_rfl) ?_
       refine x_end rfl ?_
       have hx := some_inj h
       subst hx
       exact k_then ⟨(m15, IntKind.i64.wrap (single_s7_l15 + n_s9_l18), IntKind.i64.wrap (i_s8_l15 + 1)), ⟨rfl, rfl, rfl, rfl, rfl, trivial⟩, ⟨hn15, hev, hms, hfr, hf11_1⟩, Nat.lt_succ_self _⟩
     replace h := ite_f hb h
     refine x_pure 4 [(66, undef), (67, undef), (68, .bool false), (69, .bool false)] _ _ _ (by kernel_rfl) ?_
     refine x_ek ?_
     refine c_norm [(3, Vs x6.1), (4, .bool (x8 == 0)), (5, .slice a0_11 (x10.1).length c0_11), (7, Vi single_s7_l15), (8, Vi i_s8_l15), (9, Vi n_s9_l18), (69, .bool false)] ⟨rfl, rfl, rfl, rfl, rfl, rfl, rfl, trivial⟩ (fun J => ?_)
     refine c_false rfl ?_
     refine c_skip ?_
     refine k_then ?_
     refine c_plain ?_
     refine x_pure 4 [(70, Vi single_s7_l15), (71, Vi n_s9_l18), (72, Vi (IntKind.i64.wrap (single_s7_l15 + n_s9_l18))), (7, Vi (IntKind.i64.wrap (single_s7_l15 + n_s9_l18)))] _ _ _ (by kernel_rfl) ?_
     refine x_end rfl ?_
     refine k_block ?_
     refine k_then ?_
     refine c_plain ?_
     refine x_pure 3 [(27, Vi i_s8_l15), (28, Vi (IntKind.i64.wrap (i_s8_l15 + 1))), (8, Vi (IntKind.i64.wrap (i_s8_l15 + 1)))] _ _ _ (by kernel_rfl) ?_
     refine x_end rfl ?_
     have hx := some_inj h
     subst hx
     exact k_then ⟨(m15, IntKind.i64.wrap (single_s7_l15 + n_s9_l18), IntKind.i64.wrap (i_s8_l15 + 1)), ⟨rfl, rfl, rfl, rfl, rfl, trivial⟩, ⟨hn15, hev, hms, hfr, hf11_1⟩, Nat.lt_succ_self _⟩
   replace h := ite_f hb h
   refine x_pure 7 [(59, undef), (60, undef), (61, .bool false), (62, .bool false), (63, .bool (x8 == 0)), (64, .bool (!(x8 == 0))), (65, .bool (!(x8 == 0)))] _ _ _ (by kernel_rfl) ?_
   refine x_split 65 (!(x8 == 0)) rfl (fun hb => ?_) (fun hb => ?_)
   · replace h := ite_t hb h
     refine x_pure 4 [(66, Vi n_s9_l18), (67, .bool (n_s9_l18 != 1)), (68, .bool (n_s9_l18 != 1)), (69, .bool (n_s9_l18 != 1))] _ _ _ (by kernel_rfl) ?_
     refine x_ek ?_
     refine c_norm [(3, Vs x6.1), (4, .bool (x8 == 0)), (5, .slice a0_11 (x10.1).length c0_11), (7, Vi single_s7_l15), (8, Vi i_s8_l15), (9, Vi n_s9_l18), (69, .bool (n_s9_l18 != 1))] ⟨rfl, rfl, rfl, rfl, rfl, rfl, rfl, trivial⟩ (fun J => ?_)
     refine c_cond (n_s9_l18 != 1) rfl (fun hb => ?_) (fun hb => ?_)
     · replace h := ite_t hb h
       refine c_sp ?_
       refine x_pure 1 [(2, .bool false)] _ _ _ (by kernel_rfl) ?_
       refine x_ek ?_
       refine c_ret ?_
       refine k_then_ret ?_
       refine k_block_ret ?_
       refine k_then_ret ?_
       have hx := some_inj h
       subst hx
       have hy := some_inj hn15
       subst hy
       replace h := h15
       refine k_then_ret ?_
       refine k_block_ret ?_
       refine k_then_ret ?_
       refine r_ret (r_vals [.bool false] ⟨rfl, trivial⟩ ?_)
       have hx := some_inj h
       subst hx
       have hmr : MS wl18 [M] := hms.pick [some 0] _ rfl
       have hsu : ∀ x ∈ fl [M], x ∈ fl [M] := pick_sub [some 0] _ rfl
       exact ⟨rfl, hev⟩
     replace h := ite_f hb h
     refine c_skip ?_
     refine k_then ?_
     refine c_plain ?_
     refine x_pure 4 [(70, Vi single_s7_l15), (71, Vi n_s9_l18), (72, Vi (IntKind.i64.wrap (single_s7_l15 + n_s9_l18))), (7, Vi (IntKind.i64.wrap (single_s7_l15 + n_s9_l18)))] _ _ _ (by kernel_rfl) ?_
     refine x_end rfl ?_
     refine k_block ?_
     refine k_then ?_
     refine c_plain ?_
     refine x_pure 3 [(27, Vi i_s8_l15), (28, Vi (IntKind.i64.wrap (i_s8_l15 + 1))), (8, Vi (IntKind.i64.wrap (i_s8_l15 + 1)))] _ _ _ (by kernel_rfl) ?_
     refine x_end rfl ?_
     have hx := some_inj h
     subst hx
     exact k_then ⟨(m15, IntKind.i64.wrap (single_s7_l15 + n_s9_l18), IntKind.i64.wrap (i_s8_l15 + 1)), ⟨rfl, rfl, rfl, rfl, rfl, trivial⟩, ⟨hn15, hev, hms, hfr, hf11_1⟩, Nat.lt_succ_self _⟩
   replace h := ite_f hb h
   refine x_pure 4 [(66, undef), (67, undef), (68, .bool false), (69, .bool false)] _ _ _ (by kernel_rfl) ?_
   refine x_ek ?_
   refine c_norm [(3, Vs x6.1), (4, .bool (x8 == 0)), (5, .slice a0_11 (x10.1).length c0_11), (7, Vi single_s7_l15), (8, Vi i_s8_l15), (9, Vi n_s9_l18), (69, .bool false)] ⟨rfl, rfl, rfl, rfl, rfl, rfl, rfl, trivial⟩ (fun J => ?_)
   refine c_false rfl ?_
   refine c_skip ?_
   refine k_then ?_
   refine c_plain ?_
   refine x_pure 4 [(70, Vi single_s7_l15), (71, Vi n_s9_l18), (72, Vi (IntKind.i64.wrap (single_s7_l15 + n_s9_l18))), (7, Vi (IntKind.i64.wrap (single_s7_l15 + n_s9_l18)))] _ _ _ (by kernel_rfl) ?_
   refine x_end rfl ?_
   refine k_block ?_
   refine k_then ?_
   refine c_plain ?_
   refine x_pure 3 [(27, Vi i_s8_l15), (28, Vi (IntKind.i64.wrap (i_s8_l15 + 1))), (8, Vi (IntKind.i64.wrap (i_s8_l15 + 1)))] _ _ _ (by kernel_rfl) ?_
   refine x_end rfl ?_
   have hx := some_inj h
   subst hx
   exact k_then ⟨(m15, IntKind.i64.wrap (single_s7_l15 + n_s9_l18), IntKind.i64.wrap (i_s8_l15 + 1)), ⟨rfl, rfl, rfl, rfl, rfl, trivial⟩, ⟨hn15, hev, hms, hfr, hf11_1⟩, Nat.lt_succ_self _⟩
 replace h := ite_f hb h
 refine c_exit ?_
 refine k_then_exit ?_
 have hx := some_inj h
 subst hx
 have hy := some_inj hn15
 subst hy
 replace h := h15
 refine k_then_exit ?_
 refine k_block_in ?_
 refine k_then ?_
 refine c_norm [(5, .slice a0_11 (x10.1).length c0_11), (7, Vi single_s7_l15)] ⟨rfl, rfl, trivial⟩ (fun J => ?_)
 refine c_sp ?_
 refine x_pure 1 [(73, .slice a0_11 (x10.1).length c0_11)] _ _ _ (by kernel_rfl) ?_
 refine x_len (vs := [.slice a0_11 (x10.1).length c0_11]) (Vi ((x10.1).length : Int)) rfl rfl rfl (reads_len tsl29 _ _ _ _ _) ?_
 refine x_pure 3 [(75, Vi single_s7_l15), (76, .bool (decide (((x10.1).length : Int) ≥ single_s7_l15))), (77, .bool (decide (((x10.1).length : Int) ≥ single_s7_l15)))] _ _ _ (by kernel_rfl) ?_
 refine x_split 77 (decide (((x10.1).length : Int) ≥ single_s7_l15)) rfl (fun hb => ?_) (fun hb => ?_)
 · replace h := ite_t hb h
   obtain ⟨x24, hx, h⟩ := bind_some h
   have hcall := law02_sane_w _ wl15 hx
   refine x_call 13 #[] #[] [] _ rfl rfl rfl rfl hcall ?_
   rintro v w25 ⟨rfl, he25⟩
   clear hcall hx
   refine inl1 ?_
   have hst := Stp.ext (ls := [M]) he25
   replace hf11_1 := hf11_1.step hst
   replace hms := hms.ev he25
   replace hev := hev.ext he25
   refine x_pure 2 [(79, .bool x24), (2, .bool x24)] _ _ _ (by kernel_rfl) ?_
   refine x_ek ?_
   refine c_ret ?_
   refine r_ret (r_vals [.bool x24] ⟨rfl, trivial⟩ ?_)
   have hx := some_inj h
   subst hx
   have hmr : MS w25 [M] := hms.pick [some 0] _ rfl
   have hsu : ∀ x ∈ fl [M], x ∈ fl [M] := pick_sub [some 0] _ rfl
   exact ⟨rfl, hev⟩
 replace h := ite_f hb h
 refine x_pure 3 [(78, undef), (79, .bool false), (2, .bool false)] _ _ _ (by kernel_rfl) ?_
 refine x_ek ?_
 refine c_ret ?_
 refine r_ret (r_vals [.bool false] ⟨rfl, trivial⟩ ?_)
 have hx := some_inj h
 subst hx
 have hmr : MS wl15 [M] := hms.pick [some 0] _ rfl
 have hsu : ∀ x ∈ fl [M], x ∈ fl [M] := pick_sub [some 0] _ rfl
 exact ⟨rfl, hev⟩
end Go.Proofs.Yteimkmjnjnaifaa
