/- Walks, printed by program: each function returns what the partial function of the same name returns. Conditions: those of each theorem. -/
import Derived.Test.YteimkmjnjnaifaaGT
import Derived.Test.YteimkmjnjnaifaaGgen
import Derived.Test.YteimkmjnjnaifaaGlaw02exact
import Derived.Test.YteimkmjnjnaifaaGlaw02sane
import Derived.Test.YteimkmjnjnaifaaGr02
set_option linter.unusedVariables false
set_option linter.unusedSimpArgs false
set_option maxRecDepth 4000
namespace Go.Proofs.Yteimkmjnjnaifaa
open Go Go.V Go.Proofs
def law02_WagonnumberExact_L7 (x2 : ((List Int) × Int)) (s : Int × Int) : Option (Step (Int × Int) (Unit ⊕ Unit)) :=
match s with
| (e4_l7_1, i_s6_l7) =>
(if (decide (i_s6_l7 < 4)) = true then
((gen_Maker_Number x2.1 e4_l7_1 i_s6_l7).bind fun x9 =>
((r02_Format x9.1).bind fun x11 =>
((law02_exact x9.1).bind fun x13 =>
(if (!x13) = true then
some (.done (.inl ()))
else
(if 0 ≤ ((0 : Int) : Int) ∧ ((0 : Int) : Int) ≤ (11 : Int) ∧ (11 : Int) ≤ (x9.1.length : Int) then
((law02_exact ((x9.1.drop (Int.toNat (0 : Int))).take (Int.toNat 11 - Int.toNat (0 : Int)))).bind fun x15 =>
(if (!x15) = true then
some (.done (.inl ()))
else
((law02_exact x11.1).bind fun x17 =>
(if (!x17) = true then
some (.done (.inl ()))
else
((gen_Maker_Spoil x2.1 x9.2 x9.1).bind fun x19 =>
((law02_exact x19.1).bind fun x21 =>
(if (!x21) = true then
some (.done (.inl ()))
else
((gen_Maker_Spoil x2.1 x19.2 x11.1).bind fun x23 =>
((law02_exact x23.1).bind fun x25 =>
(if (!x25) = true then
some (.done (.inl ()))
else
((gen_Maker_Digits x2.1 x23.2 12).bind fun x27 =>
((law02_exact x27.1).bind fun x29 =>
(if (!x29) = true then
some (.done (.inl ()))
else
some (.next (x27.2, IntKind.i64.wrap (i_s6_l7 + 1))))))))))))))))
else none)))))
else
some (.done (.inr ())))

def law02_WagonnumberExact (p0 : List Int) (p1 : List UInt8) : Option Bool :=
((gen_New p0).bind fun x2 =>
((loop (law02_WagonnumberExact_L7 x2) (x2.2, 0)).bind fun d => match d with
| (.inl _) => some false
| (.inr _) => (if (decide ((p1.length : Int) > 60)) = true then
some true
else
((law02_exact p1).bind fun x31 =>
(if x31 = true then
((law02_sane).bind fun x33 =>
some x33)
else
some false)))))

theorem law02_WagonnumberExact_w (a_p0 : Option Addr) (c_p0 : Nat) (p0 : List Int) (p1 : List UInt8) (r : Bool) (w : World) (M : List Nat) (hms : MS w [M]) (hs_p0 : SlR (eInt .i64) w (fl [M]) a_p0 c_p0 p0) (h : law02_WagonnumberExact p0 p1 = some r) : CallVC Try.prog 7 [.slice a_p0 (p0).length c_p0, Vs p1] w fun v w' => v = .bool r ∧ Ev [] w w' := by
 refine calls_vc hmx Try.func7 (by kernel_rfl) rfl (rs := [.tmp 4]) rfl (by kernel_rfl) (args := [.slice a_p0 (p0).length c_p0, Vs p1]) rfl ?_
 have hev : Ev [] w w := Ev.refl _ _
 have hfr : FR w.heap.size [] := FR.nil _
 refine c_sp ?_
 refine x_pure 1 [(4, .bool false)] _ _ _ (by kernel_rfl) ?_
 refine x_ek ?_
 refine c_sp ?_
 refine x_pure 1 [(10, .slice a_p0 (p0).length c_p0)] _ _ _ (by kernel_rfl) ?_
 obtain ⟨x2, hx, h⟩ := bind_some h
 have hpk : MS w ([] ++ [M]) := hms.pick [some 0] _ rfl
 have hsb0 : ∀ x ∈ fl ([] ++ [M]), x ∈ fl [M] := pick_sub [some 0] _ rfl
 have hsb : ∀ x ∈ fl ([] ++ [(fl [M])]), x ∈ fl [M] := fun x hx => hsb0 x (fl_unfold x hx)
 have hcall := gen_New_w a_p0 c_p0 p0 _ w (fl [M]) (MS.fold (P := []) hpk) (hs_p0.sub hsb) hx
 refine x_call 9 #[] #[] [.slice a_p0 (p0).length c_p0] _ rfl rfl rfl rfl hcall ?_
 rintro v w3 ⟨b0_3, a1_3, c1_3, rfl, he3, hmn3, hfn3, hf3_1, hf3_2⟩
 clear hcall hx
 refine inl1 ?_
 have hpk2 : MS w ([] ++ [M]) := hms.pick [some 0] _ rfl
 have hsb2 : ∀ x ∈ fl ([] ++ [M]), x ∈ fl [M] := pick_sub [some 0] _ rfl
 have hst0 := Stp.call (LS := [M]) (res := [[b0_3]]) (par := []) (R := [M]) he3 (fun b hb => hsb2 b (fl_left' (P := []) b hb)) hfn3 (NP.init _ _) (fun x hx => hsb2 x (fl_right' (P := []) x hx))
 have hsn : ∀ x ∈ fl [[b0_3], M], x ∈ fl ([[b0_3]] ++ ([] ++ [M])) := pick_sub [some 0, some 1] _ rfl
 have hst := hst0.res hsn
 replace hs_p0 := hs_p0.step hst
 replace hms : MS w3 [[b0_3], M] := (MS.call (P := []) (R := [M]) (res := [[b0_3]]) (par := []) hpk2 he3 hmn3 hfn3 (NP.init _ _)).pick [some 0, some 1] _ rfl
 have hfr2 : FR w.heap.size [[b0_3]] := (FR.cons (fun b hb => Nat.le_trans hev.size (hfn3.at 0 rfl b hb)) (FR.nil _))
 replace hev := hev.ext he3
 replace hfr := hfr2
 clear hfr2
 have hsp : ∀ x ∈ fl [[b0_3], M], x ∈ fl ([[b0_3]] ++ ([] ++ [(fl [M])])) := fun x hx => fl_tot (res := [[b0_3]]) (par := []) (R := [M]) x (hsn x hx)
 replace hf3_2 := hf3_2.sub hsp
 clear hpk hsb hsb0 hpk2 hsb2 hst0 hsn hst
 refine x_pure 1 [(5, Vp b0_3 0)] _ _ _ (by kernel_rfl) ?_
 refine x_ek ?_
 refine c_seq ?_
 refine c_sp ?_
 refine x_pure 1 [(6, Vi 0)] _ _ _ (by kernel_rfl) ?_
 refine x_ek ?_
 refine c_block ?_
 obtain ⟨d7, hd7, h7⟩ := bind_some h
 obtain ⟨m7, hd7⟩ := loop_some hd7
 refine c_loop (loop_rule hmx (σ := Nat × Int × Int) (fun s => match s with | (_, e4_l7_1, i_s6_l7) => [(1, Vs p1), (5, Vp b0_3 0), (6, Vi i_s6_l7)]) (fun s w' => match s with | (m, e4_l7_1, i_s6_l7) => loopN (law02_WagonnumberExact_L7 x2) m (e4_l7_1, i_s6_l7) = some d7 ∧ Ev [] w w' ∧ MS w' [[b0_3], M] ∧ FR w.heap.size [[b0_3]] ∧ SlR (eInt .i64) w' (fl [[b0_3], M]) a1_3 c1_3 x2.1 ∧ w'.heap[b0_3]? = some (.cells #[.slice a1_3 (x2.1).length c1_3, Vi e4_l7_1] 43 (0, 0))) (fun s => s.1) (m7, x2.2, 0) ⟨rfl, rfl, rfl, trivial⟩ ⟨hd7, hev, hms, hfr, hf3_2, hf3_1⟩ ?_)
 rintro ⟨m7, e4_l7_1, i_s6_l7⟩ J wl7 ⟨hn7, hev, hms, hfr, hf3_2, hf3_1⟩
 rcases m7 with _ | m7
 · exact (loopN_zero hn7).elim
 obtain ⟨t7, h, hn7⟩ := bind_some hn7
 refine c_seq ?_
 refine c_sp ?_
 refine x_pure 2 [(12, Vi i_s6_l7), (13, .bool (decide (i_s6_l7 < 4)))] _ _ _ (by kernel_rfl) ?_
 refine x_ek ?_
 refine c_norm [(1, Vs p1), (5, Vp b0_3 0), (6, Vi i_s6_l7), (13, .bool (decide (i_s6_l7 < 4)))] ⟨rfl, rfl, rfl, rfl, trivial⟩ (fun J => ?_)
 refine c_cond (decide (i_s6_l7 < 4)) rfl (fun hb => ?_) (fun hb => ?_)
 · replace h := ite_t hb h
   refine c_skip ?_
   refine k_then ?_
   refine c_seq ?_
   refine c_block ?_
   refine c_sp ?_
   refine x_pure 2 [(16, Vp b0_3 0), (17, Vi i_s6_l7)] _ _ _ (by kernel_rfl) ?_
   obtain ⟨x9, hx, h⟩ := bind_some h
   have hpk : MS wl7 ([[b0_3]] ++ [M]) := hms.pick [some 0, some 1] _ rfl
   have hsb0 : ∀ x ∈ fl ([[b0_3]] ++ [M]), x ∈ fl [[b0_3], M] := pick_sub [some 0, some 1] _ rfl
   have hsb : ∀ x ∈ fl ([[b0_3]] ++ [(fl [M])]), x ∈ fl [[b0_3], M] := fun x hx => hsb0 x (fl_unfold x hx)
   have hcall := gen_Maker_Number_w b0_3 a1_3 c1_3 x2.1 e4_l7_1 i_s6_l7 _ wl7 (fl [M]) (hpk.fold (P := [[b0_3]])) (hf3_2.sub hsb) hf3_1 hx
   refine x_call 10 #[] #[] [Vp b0_3 0, Vi i_s6_l7] _ rfl rfl rfl rfl hcall ?_
   rintro v w10 ⟨rfl, he10, hp10_0⟩
   clear hcall hx
   refine inl1 ?_
   have hpk2 : MS wl7 ([[b0_3]] ++ [M]) := hms.pick [some 0, some 1] _ rfl
   have hsb2 : ∀ x ∈ fl ([[b0_3]] ++ [M]), x ∈ fl [[b0_3], M] := pick_sub [some 0, some 1] _ rfl
   have hst0 := Stp.call (LS := [[b0_3], M]) (res := []) (par := [[b0_3]]) (R := [M]) he10 (fun b hb => hsb2 b (fl_left' (P := [[b0_3]]) b hb)) (FR.nil _) (NP.init _ _) (fun x hx => hsb2 x (fl_right' (P := [[b0_3]]) x hx))
   have hsn : ∀ x ∈ fl [[b0_3], M], x ∈ fl ([] ++ ([[b0_3]] ++ [M])) := pick_sub [some 0, some 1] _ rfl
   have hst := hst0.res hsn
   replace hf3_2 := hf3_2.step hst
   replace hms := hms.ev he10
   have hPf : ∀ b ∈ fl [[b0_3]], w.heap.size ≤ b := FR.mem (ls := [[b0_3]]) (hfr.pick [some 0] _ rfl)
   replace hev := hev.then he10 (fun b hb => .inr (hPf b hb))
   replace hf3_1 := hp10_0
   clear hpk hsb hsb0 hpk2 hsb2 hst0 hsn hst
   refine x_pure 1 [(7, Vs x9.1)] _ _ _ (by kernel_rfl) ?_
   refine x_ek ?_
   refine c_sp ?_
   refine x_pure 1 [(20, Vs x9.1)] _ _ _ (by kernel_rfl) ?_
   obtain ⟨x11, hx, h⟩ := bind_some h
   have hcall := r02_Format_w x9.1 _ w10 hx
   refine x_call 16 #[] #[] [Vs x9.1] _ rfl rfl rfl rfl hcall ?_
   rintro v w12 ⟨rfl, he12⟩
   clear hcall hx
   refine inl1 ?_
   have hst := Stp.ext (ls := [[b0_3], M]) he12
   replace hf3_1 := he12.box hf3_1 nn
   replace hf3_2 := hf3_2.step hst
   replace hms := hms.ev he12
   replace hev := hev.ext he12
   refine x_pure 5 [(19, .tuple #[Vs x11.1, Vi x11.2]), (22, Vs x11.1), (23, Vi x11.2), (8, Vs x11.1), (9, Vi x11.2)] _ _ _ (by kernel_rfl) ?_
   refine x_ek ?_
   refine c_sp ?_
   refine x_pure 1 [(24, Vs x9.1)] _ _ _ (by kernel_rfl) ?_
   obtain ⟨x13, hx, h⟩ := bind_some h
   have hcall := law02_exact_w x9.1 _ w12 hx
   refine x_call 17 #[] #[] [Vs x9.1] _ rfl rfl rfl rfl hcall ?_
   rintro v w14 ⟨rfl, he14⟩
   clear hcall hx
   refine inl1 ?_
   have hst := Stp.ext (ls := [[b0_3], M]) he14
   replace hf3_1 := he14.box hf3_1 nn
   replace hf3_2 := hf3_2.step hst
   replace hms := hms.ev he14
   replace hev := hev.ext he14
   refine x_pure 2 [(26, .bool (!x13)), (27, .bool (!x13))] _ _ _ (by kernel_rfl) ?_
   refine x_split 27 (!x13) rfl (fun hb => ?_) (fun hb => ?_)
   · replace h := ite_t hb h
     refine x_pure 30 [(28, undef), (29, undef), (30, undef), (31, undef), (32, .bool true), (33, .bool true), (34, undef), (35, undef), (36, undef), (37, .bool true), (38, .bool true), (39, undef), (40, undef), (41, undef), (42, undef), (43, undef), (44, .bool true), (45, .bool true), (46, undef), (47, undef), (48, undef), (49, undef), (50, undef), (51, .bool true), (52, .bool true), (53, undef), (54, undef), (55, undef), (56, undef), (57, .bool true)] _ _ _ (by kernel_rfl) ?_
     refine x_ek ?_
     refine c_norm [(1, Vs p1), (5, Vp b0_3 0), (6, Vi i_s6_l7), (57, .bool true)] ⟨rfl, rfl, rfl, rfl, trivial⟩ (fun J => ?_)
     refine c_true rfl ?_
     refine c_sp ?_
     refine x_pure 1 [(4, .bool false)] _ _ _ (by kernel_rfl) ?_
     refine x_ek ?_
     refine c_ret ?_
     refine k_block_ret ?_
     refine k_then_ret ?_
     have hx := some_inj h
     subst hx
     have hy := some_inj hn7
     subst hy
     replace h := h7
     refine k_then_ret ?_
     refine k_block_ret ?_
     refine k_then_ret ?_
     refine r_ret (r_vals [.bool false] ⟨rfl, trivial⟩ ?_)
     have hx := some_inj h
     subst hx
     have hmr : MS w14 [M] := hms.pick [some 1] _ rfl
     have hsu : ∀ x ∈ fl [M], x ∈ fl [[b0_3], M] := pick_sub [some 1] _ rfl
     exact ⟨rfl, hev⟩
   replace h := ite_f hb h
   refine x_pure 1 [(28, Vs x9.1)] _ _ _ (by kernel_rfl) ?_
   have hg := guard_l h
   replace h := guard_r h
   refine x_slice (xv := Vs x9.1) (lv := none) (hv := (some (Vi 11))) (mv := none) (Vs ((x9.1.drop (Int.toNat (0 : Int))).take (Int.toNat 11 - Int.toNat (0 : Int)))) rfl rfl rfl rfl rfl rfl (reads_scut tstr9 _ none (some 11) hg) ?_
   obtain ⟨x15, hx, h⟩ := bind_some h
   have hcall := law02_exact_w ((x9.1.drop (Int.toNat (0 : Int))).take (Int.toNat 11 - Int.toNat (0 : Int))) _ w14 hx
   refine x_call 17 #[] #[] [Vs ((x9.1.drop (Int.toNat (0 : Int))).take (Int.toNat 11 - Int.toNat (0 : Int)))] _ rfl rfl rfl rfl hcall ?_
   rintro v w16 ⟨rfl, he16⟩
   clear hcall hx
   refine inl1 ?_
   have hst := Stp.ext (ls := [[b0_3], M]) he16
   replace hf3_1 := he16.box hf3_1 nn
   replace hf3_2 := hf3_2.step hst
   replace hms := hms.ev he16
   replace hev := hev.ext he16
   refine x_pure 3 [(31, .bool (!x15)), (32, .bool (!x15)), (33, .bool (!x15))] _ _ _ (by kernel_rfl) ?_
   refine x_split 33 (!x15) rfl (fun hb => ?_) (fun hb => ?_)
   · replace h := ite_t hb h
     refine x_pure 24 [(34, undef), (35, undef), (36, undef), (37, .bool true), (38, .bool true), (39, undef), (40, undef), (41, undef), (42, undef), (43, undef), (44, .bool true), (45, .bool true), (46, undef), (47, undef), (48, undef), (49, undef), (50, undef), (51, .bool true), (52, .bool true), (53, undef), (54, undef), (55, undef), (56, undef), (57, .bool true)] _ _ _ (by kernel_rfl) ?_
     refine x_ek ?_
     refine c_norm [(1, Vs p1), (5, Vp b0_3 0), (6, Vi i_s6_l7), (57, .bool true)] ⟨rfl, rfl, rfl, rfl, trivial⟩ (fun J => ?_)
     refine c_true rfl ?_
     refine c_sp ?_
     refine x_pure 1 [(4, .bool false)] _ _ _ (by kernel_rfl) ?_
     refine x_ek ?_
     refine c_ret ?_
     refine k_block_ret ?_
     refine k_then_ret ?_
     have hx := some_inj h
     subst hx
     have hy := some_inj hn7
     subst hy
     replace h := h7
     refine k_then_ret ?_
     refine k_block_ret ?_
     refine k_then_ret ?_
     refine r_ret (r_vals [.bool false] ⟨rfl, trivial⟩ ?_)
     have hx := some_inj h
     subst hx
     have hmr : MS w16 [M] := hms.pick [some 1] _ rfl
     have hsu : ∀ x ∈ fl [M], x ∈ fl [[b0_3], M] := pick_sub [some 1] _ rfl
     exact ⟨rfl, hev⟩
   replace h := ite_f hb h
   refine x_pure 1 [(34, Vs x11.1)] _ _ _ (by kernel_rfl) ?_
   obtain ⟨x17, hx, h⟩ := bind_some h
   have hcall := law02_exact_w x11.1 _ w16 hx
   refine x_call 17 #[] #[] [Vs x11.1] _ rfl rfl rfl rfl hcall ?_
   rintro v w18 ⟨rfl, he18⟩
   clear hcall hx
   refine inl1 ?_
   have hst := Stp.ext (ls := [[b0_3], M]) he18
   replace hf3_1 := he18.box hf3_1 nn
   replace hf3_2 := hf3_2.step hst
   replace hms := hms.ev he18
   replace hev := hev.ext he18
   refine x_pure 3 [(36, .bool (!x17)), (37, .bool (!x17)), (38, .bool (!x17))] _ _ _ (by kernel_rfl) ?_
   refine x_split 38 (!x17) rfl (fun hb => ?_) (fun hb => ?_)
   · replace h := ite_t hb h
     refine x_pure 19 [(39, undef), (40, undef), (41, undef), (42, undef), (43, undef), (44, .bool true), (45, .bool true), (46, undef), (47, undef), (48, undef), (49, undef), (50, undef), (51, .bool true), (52, .bool true), (53, undef), (54, undef), (55, undef), (56, undef), (57, .bool true)] _ _ _ (by kernel_rfl) ?_
     refine x_ek ?_
     refine c_norm [(1, Vs p1), (5, Vp b0_3 0), (6, Vi i_s6_l7), (57, .bool true)] ⟨rfl, rfl, rfl, rfl, trivial⟩ (fun J => ?_)
     refine c_true rfl ?_
     refine c_sp ?_
     refine x_pure 1 [(4, .bool false)] _ _ _ (by kernel_rfl) ?_
     refine x_ek ?_
     refine c_ret ?_
     refine k_block_ret ?_
     refine k_then_ret ?_
     have hx := some_inj h
     subst hx
     have hy := some_inj hn7
     subst hy
     replace h := h7
     refine k_then_ret ?_
     refine k_block_ret ?_
     refine k_then_ret ?_
     refine r_ret (r_vals [.bool false] ⟨rfl, trivial⟩ ?_)
     have hx := some_inj h
     subst hx
     have hmr : MS w18 [M] := hms.pick [some 1] _ rfl
     have hsu : ∀ x ∈ fl [M], x ∈ fl [[b0_3], M] := pick_sub [some 1] _ rfl
     exact ⟨rfl, hev⟩
   replace h := ite_f hb h
   refine x_pure 2 [(39, Vp b0_3 0), (40, Vs x9.1)] _ _ _ (by kernel_rfl) ?_
   obtain ⟨x19, hx, h⟩ := bind_some h
   have hpk : MS w18 ([[b0_3]] ++ [M]) := hms.pick [some 0, some 1] _ rfl
   have hsb0 : ∀ x ∈ fl ([[b0_3]] ++ [M]), x ∈ fl [[b0_3], M] := pick_sub [some 0, some 1] _ rfl
   have hsb : ∀ x ∈ fl ([[b0_3]] ++ [(fl [M])]), x ∈ fl [[b0_3], M] := fun x hx => hsb0 x (fl_unfold x hx)
   have hcall := gen_Maker_Spoil_w b0_3 a1_3 c1_3 x2.1 x9.2 x9.1 _ w18 (fl [M]) (hpk.fold (P := [[b0_3]])) (hf3_2.sub hsb) hf3_1 hx
   refine x_call 18 #[] #[] [Vp b0_3 0, Vs x9.1] _ rfl rfl rfl rfl hcall ?_
   rintro v w20 ⟨rfl, he20, hp20_0⟩
   clear hcall hx
   refine inl1 ?_
   have hpk2 : MS w18 ([[b0_3]] ++ [M]) := hms.pick [some 0, some 1] _ rfl
   have hsb2 : ∀ x ∈ fl ([[b0_3]] ++ [M]), x ∈ fl [[b0_3], M] := pick_sub [some 0, some 1] _ rfl
   have hst0 := Stp.call (LS := [[b0_3], M]) (res := []) (par := [[b0_3]]) (R := [M]) he20 (fun b hb => hsb2 b (fl_left' (P := [[b0_3]]) b hb)) (FR.nil _) (NP.init _ _) (fun x hx => hsb2 x (fl_right' (P := [[b0_3]]) x hx))
   have hsn : ∀ x ∈ fl [[b0_3], M], x ∈ fl ([] ++ ([[b0_3]] ++ [M])) := pick_sub [some 0, some 1] _ rfl
   have hst := hst0.res hsn
   replace hf3_2 := hf3_2.step hst
   replace hms := hms.ev he20
   have hPf : ∀ b ∈ fl [[b0_3]], w.heap.size ≤ b := FR.mem (ls := [[b0_3]]) (hfr.pick [some 0] _ rfl)
   replace hev := hev.then he20 (fun b hb => .inr (hPf b hb))
   replace hf3_1 := hp20_0
   clear hpk hsb hsb0 hpk2 hsb2 hst0 hsn hst
   obtain ⟨x21, hx, h⟩ := bind_some h
   have hcall := law02_exact_w x19.1 _ w20 hx
   refine x_call 17 #[] #[] [Vs x19.1] _ rfl rfl rfl rfl hcall ?_
   rintro v w22 ⟨rfl, he22⟩
   clear hcall hx
   refine inl1 ?_
   have hst := Stp.ext (ls := [[b0_3], M]) he22
   replace hf3_1 := he22.box hf3_1 nn
   replace hf3_2 := hf3_2.step hst
   replace hms := hms.ev he22
   replace hev := hev.ext he22
   refine x_pure 3 [(43, .bool (!x21)), (44, .bool (!x21)), (45, .bool (!x21))] _ _ _ (by kernel_rfl) ?_
   refine x_split 45 (!x21) rfl (fun hb => ?_) (fun hb => ?_)
   · replace h := ite_t hb h
     refine x_pure 12 [(46, undef), (47, undef), (48, undef), (49, undef), (50, undef), (51, .bool true), (52, .bool true), (53, undef), (54, undef), (55, undef), (56, undef), (57, .bool true)] _ _ _ (by kernel_rfl) ?_
     refine x_ek ?_
     refine c_norm [(1, Vs p1), (5, Vp b0_3 0), (6, Vi i_s6_l7), (57, .bool true)] ⟨rfl, rfl, rfl, rfl, trivial⟩ (fun J => ?_)
     refine c_true rfl ?_
     refine c_sp ?_
     refine x_pure 1 [(4, .bool false)] _ _ _ (by kernel_rfl) ?_
     refine x_ek ?_
     refine c_ret ?_
     refine k_block_ret ?_
     refine k_then_ret ?_
     have hx := some_inj h
     subst hx
     have hy := some_inj hn7
     subst hy
     replace h := h7
     refine k_then_ret ?_
     refine k_block_ret ?_
     refine k_then_ret ?_
     refine r_ret (r_vals [.bool false] ⟨rfl, trivial⟩ ?_)
     have hx := some_inj h
     subst hx
     have hmr : MS w22 [M] := hms.pick [some 1] _ rfl
     have hsu : ∀ x ∈ fl [M], x ∈ fl [[b0_3], M] := pick_sub [some 1] _ rfl
     exact ⟨rfl, hev⟩
   replace h := ite_f hb h
   refine x_pure 2 [(46, Vp b0_3 0), (47, Vs x11.1)] _ _ _ (by kernel_rfl) ?_
   obtain ⟨x23, hx, h⟩ := bind_some h
   have hpk : MS w22 ([[b0_3]] ++ [M]) := hms.pick [some 0, some 1] _ rfl
   have hsb0 : ∀ x ∈ fl ([[b0_3]] ++ [M]), x ∈ fl [[b0_3], M] := pick_sub [some 0, some 1] _ rfl
   have hsb : ∀ x ∈ fl ([[b0_3]] ++ [(fl [M])]), x ∈ fl [[b0_3], M] := fun x hx => hsb0 x (fl_unfold x hx)
   have hcall := gen_Maker_Spoil_w b0_3 a1_3 c1_3 x2.1 x19.2 x11.1 _ w22 (fl [M]) (hpk.fold (P := [[b0_3]])) (hf3_2.sub hsb) hf3_1 hx
   refine x_call 18 #[] #[] [Vp b0_3 0, Vs x11.1] _ rfl rfl rfl rfl hcall ?_
   rintro v w24 ⟨rfl, he24, hp24_0⟩
   clear hcall hx
   refine inl1 ?_
   have hpk2 : MS w22 ([[b0_3]] ++ [M]) := hms.pick [some 0, some 1] _ rfl
   have hsb2 : ∀ x ∈ fl ([[b0_3]] ++ [M]), x ∈ fl [[b0_3], M] := pick_sub [some 0, some 1] _ rfl
   have hst0 := Stp.call (LS := [[b0_3], M]) (res := []) (par := [[b0_3]]) (R := [M]) he24 (fun b hb => hsb2 b (fl_left' (P := [[b0_3]]) b hb)) (FR.nil _) (NP.init _ _) (fun x hx => hsb2 x (fl_right' (P := [[b0_3]]) x hx))
   have hsn : ∀ x ∈ fl [[b0_3], M], x ∈ fl ([] ++ ([[b0_3]] ++ [M])) := pick_sub [some 0, some 1] _ rfl
   have hst := hst0.res hsn
   replace hf3_2 := hf3_2.step hst
   replace hms := hms.ev he24
   have hPf : ∀ b ∈ fl [[b0_3]], w.heap.size ≤ b := FR.mem (ls := [[b0_3]]) (hfr.pick [some 0] _ rfl)
   replace hev := hev.then he24 (fun b hb => .inr (hPf b hb))
   replace hf3_1 := hp24_0
   clear hpk hsb hsb0 hpk2 hsb2 hst0 hsn hst
   obtain ⟨x25, hx, h⟩ := bind_some h
   have hcall := law02_exact_w x23.1 _ w24 hx
   refine x_call 17 #[] #[] [Vs x23.1] _ rfl rfl rfl rfl hcall ?_
   rintro v w26 ⟨rfl, he26⟩
   clear hcall hx
   refine inl1 ?_
   have hst := Stp.ext (ls := [[b0_3], M]) he26
   replace hf3_1 := he26.box hf3_1 nn
   replace hf3_2 := hf3_2.step hst
   replace hms := hms.ev he26
   replace hev := hev.ext he26
   refine x_pure 3 [(50, .bool (!x25)), (51, .bool (!x25)), (52, .bool (!x25))] _ _ _ (by kernel_rfl) ?_
   refine x_split 52 (!x25) rfl (fun hb => ?_) (fun hb => ?_)
   · replace h := ite_t hb h
     refine x_pure 5 [(53, undef), (54, undef), (55, undef), (56, undef), (57, .bool true)] _ _ _ (by kernel_rfl) ?_
     refine x_ek ?_
     refine c_norm [(1, Vs p1), (5, Vp b0_3 0), (6, Vi i_s6_l7), (57, .bool true)] ⟨rfl, rfl, rfl, rfl, trivial⟩ (fun J => ?_)
     refine c_true rfl ?_
     refine c_sp ?_
     refine x_pure 1 [(4, .bool false)] _ _ _ (by kernel_rfl) ?_
     refine x_ek ?_
     refine c_ret ?_
     refine k_block_ret ?_
     refine k_then_ret ?_
     have hx := some_inj h
     subst hx
     have hy := some_inj hn7
     subst hy
     replace h := h7
     refine k_then_ret ?_
     refine k_block_ret ?_
     refine k_then_ret ?_
     refine r_ret (r_vals [.bool false] ⟨rfl, trivial⟩ ?_)
     have hx := some_inj h
     subst hx
     have hmr : MS w26 [M] := hms.pick [some 1] _ rfl
     have hsu : ∀ x ∈ fl [M], x ∈ fl [[b0_3], M] := pick_sub [some 1] _ rfl
     exact ⟨rfl, hev⟩
   replace h := ite_f hb h
   refine x_pure 1 [(53, Vp b0_3 0)] _ _ _ (by kernel_rfl) ?_
   obtain ⟨x27, hx, h⟩ := bind_some h
   have hpk : MS w26 ([[b0_3]] ++ [M]) := hms.pick [some 0, some 1] _ rfl
   have hsb0 : ∀ x ∈ fl ([[b0_3]] ++ [M]), x ∈ fl [[b0_3], M] := pick_sub [some 0, some 1] _ rfl
   have hsb : ∀ x ∈ fl ([[b0_3]] ++ [(fl [M])]), x ∈ fl [[b0_3], M] := fun x hx => hsb0 x (fl_unfold x hx)
   have hcall := gen_Maker_Digits_w b0_3 a1_3 c1_3 x2.1 x23.2 12 _ w26 (fl [M]) (hpk.fold (P := [[b0_3]])) (hf3_2.sub hsb) hf3_1 hx
   refine x_call 14 #[] #[] [Vp b0_3 0, Vi 12] _ rfl rfl rfl rfl hcall ?_
   rintro v w28 ⟨rfl, he28, hp28_0⟩
   clear hcall hx
   refine inl1 ?_
   have hpk2 : MS w26 ([[b0_3]] ++ [M]) := hms.pick [some 0, some 1] _ rfl
   have hsb2 : ∀ x ∈ fl ([[b0_3]] ++ [M]), x ∈ fl [[b0_3], M] := pick_sub [some 0, some 1] _ rfl
   have hst0 := Stp.call (LS := [[b0_3], M]) (res := []) (par := [[b0_3]]) (R := [M]) he28 (fun b hb => hsb2 b (fl_left' (P := [[b0_3]]) b hb)) (FR.nil _) (NP.init _ _) (fun x hx => hsb2 x (fl_right' (P := [[b0_3]]) x hx))
   have hsn : ∀ x ∈ fl [[b0_3], M], x ∈ fl ([] ++ ([[b0_3]] ++ [M])) := pick_sub [some 0, some 1] _ rfl
   have hst := hst0.res hsn
   replace hf3_2 := hf3_2.step hst
   replace hms := hms.ev he28
   have hPf : ∀ b ∈ fl [[b0_3]], w.heap.size ≤ b := FR.mem (ls := [[b0_3]]) (hfr.pick [some 0] _ rfl)
   replace hev := hev.then he28 (fun b hb => .inr (hPf b hb))
   replace hf3_1 := hp28_0
   clear hpk hsb hsb0 hpk2 hsb2 hst0 hsn hst
   obtain ⟨x29, hx, h⟩ := bind_some h
   have hcall := law02_exact_w x27.1 _ w28 hx
   refine x_call 17 #[] #[] [Vs x27.1] _ rfl rfl rfl rfl hcall ?_
   rintro v w30 ⟨rfl, he30⟩
   clear hcall hx
   refine inl1 ?_
   have hst := Stp.ext (ls := [[b0_3], M]) he30
   replace hf3_1 := he30.box hf3_1 nn
   replace hf3_2 := hf3_2.step hst
   replace hms := hms.ev he30
   replace hev := hev.ext he30
   refine x_pure 2 [(56, .bool (!x29)), (57, .bool (!x29))] _ _ _ (by kernel_rfl) ?_
   refine x_ek ?_
   refine c_norm [(1, Vs p1), (5, Vp b0_3 0), (6, Vi i_s6_l7), (57, .bool (!x29))] ⟨rfl, rfl, rfl, rfl, trivial⟩ (fun J => ?_)
   refine c_cond (!x29) rfl (fun hb => ?_) (fun hb => ?_)
   · replace h := ite_t hb h
     refine c_sp ?_
     refine x_pure 1 [(4, .bool false)] _ _ _ (by kernel_rfl) ?_
     refine x_ek ?_
     refine c_ret ?_
     refine k_block_ret ?_
     refine k_then_ret ?_
     have hx := some_inj h
     subst hx
     have hy := some_inj hn7
     subst hy
     replace h := h7
     refine k_then_ret ?_
     refine k_block_ret ?_
     refine k_then_ret ?_
     refine r_ret (r_vals [.bool false] ⟨rfl, trivial⟩ ?_)
     have hx := some_inj h
     subst hx
     have hmr : MS w30 [M] := hms.pick [some 1] _ rfl
     have hsu : ∀ x ∈ fl [M], x ∈ fl [[b0_3], M] := pick_sub [some 1] _ rfl
     exact ⟨rfl, hev⟩
   replace h := ite_f hb h
   refine c_skip ?_
   refine k_block ?_
   refine k_then ?_
   refine c_plain ?_
   refine x_pure 3 [(14, Vi i_s6_l7), (15, Vi (IntKind.i64.wrap (i_s6_l7 + 1))), (6, Vi (IntKind.i64.wrap (i_s6_l7 + 1)))] _ _ _ (by kernel_rfl) ?_
   refine x_end rfl ?_
   have hx := some_inj h
   subst hx
   exact k_then ⟨(m7, x27.2, IntKind.i64.wrap (i_s6_l7 + 1)), ⟨rfl, rfl, rfl, trivial⟩, ⟨hn7, hev, hms, hfr, hf3_2, hf3_1⟩, Nat.lt_succ_self _⟩
 replace h := ite_f hb h
 refine c_exit ?_
 refine k_then_exit ?_
 have hx := some_inj h
 subst hx
 have hy := some_inj hn7
 subst hy
 replace h := h7
 refine k_then_exit ?_
 refine k_block_in ?_
 refine k_then ?_
 refine c_norm [(1, Vs p1)] ⟨rfl, trivial⟩ (fun J => ?_)
 refine c_sp ?_
 refine x_pure 1 [(58, Vs p1)] _ _ _ (by kernel_rfl) ?_
 refine x_len (vs := [Vs p1]) (Vi (p1.length : Int)) rfl rfl rfl (reads_slen tstr9 _) ?_
 refine x_pure 2 [(60, .bool (decide ((p1.length : Int) > 60))), (61, .bool (decide ((p1.length : Int) > 60)))] _ _ _ (by kernel_rfl) ?_
 refine x_split 61 (decide ((p1.length : Int) > 60)) rfl (fun hb => ?_) (fun hb => ?_)
 · replace h := ite_t hb h
   refine x_pure 7 [(62, undef), (63, undef), (64, undef), (65, undef), (66, undef), (67, .bool true), (4, .bool true)] _ _ _ (by kernel_rfl) ?_
   refine x_ek ?_
   refine c_ret ?_
   refine r_ret (r_vals [.bool true] ⟨rfl, trivial⟩ ?_)
   have hx := some_inj h
   subst hx
   have hmr : MS wl7 [M] := hms.pick [some 1] _ rfl
   have hsu : ∀ x ∈ fl [M], x ∈ fl [[b0_3], M] := pick_sub [some 1] _ rfl
   exact ⟨rfl, hev⟩
 replace h := ite_f hb h
 refine x_pure 1 [(62, Vs p1)] _ _ _ (by kernel_rfl) ?_
 obtain ⟨x31, hx, h⟩ := bind_some h
 have hcall := law02_exact_w p1 _ wl7 hx
 refine x_call 17 #[] #[] [Vs p1] _ rfl rfl rfl rfl hcall ?_
 rintro v w32 ⟨rfl, he32⟩
 clear hcall hx
 refine inl1 ?_
 have hst := Stp.ext (ls := [[b0_3], M]) he32
 replace hf3_1 := he32.box hf3_1 nn
 replace hf3_2 := hf3_2.step hst
 replace hms := hms.ev he32
 replace hev := hev.ext he32
 refine x_pure 1 [(64, .bool x31)] _ _ _ (by kernel_rfl) ?_
 refine x_split 64 x31 rfl (fun hb => ?_) (fun hb => ?_)
 · replace h := ite_t hb h
   obtain ⟨x33, hx, h⟩ := bind_some h
   have hcall := law02_sane_w _ w32 hx
   refine x_call 13 #[] #[] [] _ rfl rfl rfl rfl hcall ?_
   rintro v w34 ⟨rfl, he34⟩
   clear hcall hx
   refine inl1 ?_
   have hst := Stp.ext (ls := [[b0_3], M]) he34
   replace hf3_1 := he34.box hf3_1 nn
   replace hf3_2 := hf3_2.step hst
   replace hms := hms.ev he34
   replace hev := hev.ext he34
   refine x_pure 3 [(66, .bool x33), (67, .bool x33), (4, .bool x33)] _ _ _ (by kernel_rfl) ?_
   refine x_ek ?_
   refine c_ret ?_
   refine r_ret (r_vals [.bool x33] ⟨rfl, trivial⟩ ?_)
   have hx := some_inj h
   subst hx
   have hmr : MS w34 [M] := hms.pick [some 1] _ rfl
   have hsu : ∀ x ∈ fl [M], x ∈ fl [[b0_3], M] := pick_sub [some 1] _ rfl
   exact ⟨rfl, hev⟩
 replace h := ite_f hb h
 refine x_pure 4 [(65, undef), (66, .bool false), (67, .bool false), (4, .bool false)] _ _ _ (by kernel_rfl) ?_
 refine x_ek ?_
 refine c_ret ?_
 refine r_ret (r_vals [.bool false] ⟨rfl, trivial⟩ ?_)
 have hx := some_inj h
 subst hx
 have hmr : MS w32 [M] := hms.pick [some 1] _ rfl
 have hsu : ∀ x ∈ fl [M], x ∈ fl [[b0_3], M] := pick_sub [some 1] _ rfl
 exact ⟨rfl, hev⟩
end Go.Proofs.Yteimkmjnjnaifaa
