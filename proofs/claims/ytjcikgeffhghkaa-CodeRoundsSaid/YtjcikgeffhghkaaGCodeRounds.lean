/- Walks, printed by program: each function returns what the partial function of the same name returns. Conditions: those of each theorem. -/
import Derived.Test.YtjcikgeffhghkaaGT
import Derived.Test.YtjcikgeffhghkaaGcode
import Derived.Test.YtjcikgeffhghkaaGgen
import Derived.Test.YtjcikgeffhghkaaGlaw12
set_option linter.unusedVariables false
set_option maxRecDepth 4000
namespace Go.Proofs.Ytjcikgeffhghkaa
open Go Go.V Go.Proofs
def law12_CodeRounds (v_t_0 : List Int) : Option Bool :=
((gen_New v_t_0).bind fun x2 =>
((law12_form x2.1 x2.2).bind fun x6 =>
((gen_Maker_Next x2.1 x6.2.2 200).bind fun x8 =>
((code_Nth x8.1 x6.1 x6.2.1).bind fun x10 =>
((code_Nth x8.1 0 x6.2.1).bind fun x12 =>
(if (x12.2 != 0) = true then
(if (x10.2 == 15) = true then
((law12_sane).bind fun x14 =>
some x14)
else
some false)
else
(if 0 ≤ IntKind.i64.wrap (12 - x6.1) then
(if (decide (x12.1 ≥ (IntKind.i64.wrap (1 * 2 ^ (min (Int.toNat ((IntKind.i64.wrap (12 - x6.1)))) IntKind.i64.bits))))) = true then
(if (x10.2 == 15) = true then
((law12_sane).bind fun x16 =>
some x16)
else
some false)
else
(if (x10.2 == 0) = true then
(if 0 ≤ x6.1 then
(if 0 ≤ x6.1 then
(if (x10.1 == (IntKind.i64.wrap ((IntKind.i64.wrap ((IntKind.i64.wrap (x12.1 * 2 ^ (min (Int.toNat (x6.1)) IntKind.i64.bits))) + (IntKind.i64.wrap (1 * 2 ^ (min (Int.toNat (x6.1)) IntKind.i64.bits))))) - 1))) = true then
((law12_sane).bind fun x18 =>
some x18)
else
some false)
else none)
else none)
else
some false))
else none)))))))

theorem law12_CodeRounds_w (a_v_t_0 : Option Addr) (c_v_t_0 : Nat) (v_t_0 : List Int) (r : Bool) (w : World) (M : List Nat) (hms : MS w [M]) (hs_v_t_0 : SlR (eInt .i64) w (fl [M]) a_v_t_0 c_v_t_0 v_t_0) (h : law12_CodeRounds v_t_0 = some r) : CallVC Try.prog 4 [.slice a_v_t_0 (v_t_0).length c_v_t_0] w fun v w' => v = .bool r ∧ Ev [] w w' := by
  refine calls_vc hmx Try.func4 (by kernel_rfl) rfl (rs := [.tmp 2]) rfl (by kernel_rfl) (args := [.slice a_v_t_0 (v_t_0).length c_v_t_0]) rfl ?_
  have hev : Ev [] w w := Ev.refl _ _
  have hfr : FR w.heap.size [] := FR.nil _
  refine c_seq ?_
  refine c_plain ?_
  refine x_pure 1 [(2, .bool false)] _ _ _ (by kernel_rfl) ?_
  refine x_end rfl ?_
  refine k_then ?_
  refine c_norm [(0, .slice a_v_t_0 (v_t_0).length c_v_t_0)] ⟨rfl, trivial⟩ (fun J => ?_)
  refine c_seq ?_
  refine c_plain ?_
  refine x_pure 1 [(11, .slice a_v_t_0 (v_t_0).length c_v_t_0)] _ _ _ (by kernel_rfl) ?_
  obtain ⟨x2, hx, h⟩ := bind_some h
  have hpk := hms.pick [some 0] [M] rfl
  have hsb : ∀ x ∈ fl [(fl [M])], x ∈ fl [M] := fun x hx => pick_sub [some 0] [M] rfl x hx
  have hcall := gen_New_w a_v_t_0 c_v_t_0 v_t_0 _ w (fl [M]) (hpk.all) (hs_v_t_0.sub hsb) hx
  refine x_call 9 #[] #[] [.slice a_v_t_0 (v_t_0).length c_v_t_0] _ rfl rfl rfl rfl hcall ?_
  rintro v w3 ⟨b0_3, a1_3, c1_3, rfl, he3, hmn3, hfn3, hf3_1, hf3_2⟩
  clear hcall hx
  refine ⟨.inl rfl, ?_⟩
  have hst : Stp (fl [M]) w (fl [[b0_3], M]) w3 := Stp.join (res := [[b0_3]]) he3 (fun _ h => by cases h) hfn3
  replace hs_v_t_0 := hs_v_t_0.step hst
  replace hms : MS w3 [[b0_3], M] := hms.join he3 hmn3 hfn3
  replace hfr : FR w.heap.size [[b0_3]] := hfr.join hfn3 hev.size
  replace hev := hev.ext he3
  have hsp : ∀ x ∈ fl [[b0_3], M], x ∈ fl [[b0_3], (fl [M])] := fl_app [[b0_3]] (fun x hx => pick_sup [some 0] [M] rfl rfl x hx)
  replace hf3_2 := hf3_2.sub hsp
  refine x_pure 1 [(3, .pointer (some ⟨b0_3, 0, none⟩))] _ _ _ (by kernel_rfl) ?_
  refine x_end rfl ?_
  refine k_then ?_
  refine c_norm [(3, .pointer (some ⟨b0_3, 0, none⟩))] ⟨rfl, trivial⟩ (fun J => ?_)
  refine c_seq ?_
  refine c_plain ?_
  refine x_pure 1 [(14, .pointer (some ⟨b0_3, 0, none⟩))] _ _ _ (by kernel_rfl) ?_
  obtain ⟨x6, hx, h⟩ := bind_some h
  have hpk := hms.pick [some 0, some 1] [[b0_3], M] rfl
  have hsb : ∀ x ∈ fl [[b0_3], (fl [M])], x ∈ fl [[b0_3], M] := fun x hx => pick_sub [some 0, some 1] [[b0_3], M] rfl x (focus_sub (ls := [[b0_3], M]) 0 rfl x hx)
  have hcall := law12_form_w b0_3 a1_3 c1_3 x2.1 x2.2 _ w3 (fl [M]) (hpk.focus 0 rfl) (hf3_2.sub hsb) hf3_1 hx
  refine x_call 10 #[] #[] [.pointer (some ⟨b0_3, 0, none⟩)] _ rfl rfl rfl rfl hcall ?_
  rintro v w7 ⟨rfl, he7, hbn7⟩
  clear hcall hx
  refine ⟨.inl rfl, ?_⟩
  have hst := Stp.ev' (ls := [[b0_3], M]) he7 (mem_flat 0 rfl)
  replace hf3_2 := hf3_2.step hst
  replace hms := hms.ev he7
  replace hev := hev.then he7 (fun b hb => .inr (hfr.at 0 rfl b hb))
  replace hf3_1 := hbn7
  refine x_pure 5 [(13, .tuple #[.int .i64 x6.1, .int .i64 x6.2.1]), (16, .int .i64 x6.1), (17, .int .i64 x6.2.1), (4, .int .i64 x6.1), (5, .int .i64 x6.2.1)] _ _ _ (by kernel_rfl) ?_
  refine x_end rfl ?_
  refine k_then ?_
  refine c_norm [(3, .pointer (some ⟨b0_3, 0, none⟩)), (4, .int .i64 x6.1), (5, .int .i64 x6.2.1)] ⟨rfl, rfl, rfl, trivial⟩ (fun J => ?_)
  refine c_seq ?_
  refine c_plain ?_
  refine x_pure 1 [(18, .pointer (some ⟨b0_3, 0, none⟩))] _ _ _ (by kernel_rfl) ?_
  obtain ⟨x8, hx, h⟩ := bind_some h
  have hpk := hms.pick [some 0, some 1] [[b0_3], M] rfl
  have hsb : ∀ x ∈ fl [[b0_3], (fl [M])], x ∈ fl [[b0_3], M] := fun x hx => pick_sub [some 0, some 1] [[b0_3], M] rfl x (focus_sub (ls := [[b0_3], M]) 0 rfl x hx)
  have hcall := gen_Maker_Next_w b0_3 a1_3 c1_3 x2.1 x6.2.2 200 _ w7 (fl [M]) (hpk.focus 0 rfl) (hf3_2.sub hsb) hf3_1 hx
  refine x_call 11 #[] #[] [.pointer (some ⟨b0_3, 0, none⟩), .int .i64 200] _ rfl rfl rfl rfl hcall ?_
  rintro v w9 ⟨rfl, he9, hbn9⟩
  clear hcall hx
  refine ⟨.inl rfl, ?_⟩
  have hst := Stp.ev' (ls := [[b0_3], M]) he9 (mem_flat 0 rfl)
  replace hf3_2 := hf3_2.step hst
  replace hms := hms.ev he9
  replace hev := hev.then he9 (fun b hb => .inr (hfr.at 0 rfl b hb))
  replace hf3_1 := hbn9
  refine x_pure 1 [(6, .int .i64 x8.1)] _ _ _ (by kernel_rfl) ?_
  refine x_end rfl ?_
  refine k_then ?_
  refine c_norm [(4, .int .i64 x6.1), (5, .int .i64 x6.2.1), (6, .int .i64 x8.1)] ⟨rfl, rfl, rfl, trivial⟩ (fun J => ?_)
  refine c_seq ?_
  refine c_plain ?_
  refine x_pure 3 [(21, .int .i64 x8.1), (22, .int .i64 x6.1), (23, .int .i64 x6.2.1)] _ _ _ (by kernel_rfl) ?_
  obtain ⟨x10, hx, h⟩ := bind_some h
  have hcall := code_Nth_w x8.1 x6.1 x6.2.1 _ w9 hx
  refine x_call 15 #[] #[] [.int .i64 x8.1, .int .i64 x6.1, .int .i64 x6.2.1] _ rfl rfl rfl rfl hcall ?_
  rintro v w11 ⟨rfl, he11⟩
  clear hcall hx
  refine ⟨.inl rfl, ?_⟩
  have hst := Stp.ext (ls := [[b0_3], M]) he11
  replace hf3_1 := he11.box hf3_1 (fun h => by cases h)
  replace hf3_2 := hf3_2.step hst
  replace hms := hms.ev he11
  replace hev := hev.ext he11
  refine x_pure 5 [(20, .tuple #[.int .i64 x10.1, .int .i64 x10.2]), (25, .int .i64 x10.1), (26, .int .i64 x10.2), (7, .int .i64 x10.1), (8, .int .i64 x10.2)] _ _ _ (by kernel_rfl) ?_
  refine x_end rfl ?_
  refine k_then ?_
  refine c_norm [(4, .int .i64 x6.1), (5, .int .i64 x6.2.1), (6, .int .i64 x8.1), (7, .int .i64 x10.1), (8, .int .i64 x10.2)] ⟨rfl, rfl, rfl, rfl, rfl, trivial⟩ (fun J => ?_)
  refine c_seq ?_
  refine c_plain ?_
  refine x_pure 2 [(28, .int .i64 x8.1), (29, .int .i64 x6.2.1)] _ _ _ (by kernel_rfl) ?_
  obtain ⟨x12, hx, h⟩ := bind_some h
  have hcall := code_Nth_w x8.1 0 x6.2.1 _ w11 hx
  refine x_call 15 #[] #[] [.int .i64 x8.1, .int .i64 0, .int .i64 x6.2.1] _ rfl rfl rfl rfl hcall ?_
  rintro v w13 ⟨rfl, he13⟩
  clear hcall hx
  refine ⟨.inl rfl, ?_⟩
  have hst := Stp.ext (ls := [[b0_3], M]) he13
  replace hf3_1 := he13.box hf3_1 (fun h => by cases h)
  replace hf3_2 := hf3_2.step hst
  replace hms := hms.ev he13
  replace hev := hev.ext he13
  refine x_pure 5 [(27, .tuple #[.int .i64 x12.1, .int .i64 x12.2]), (31, .int .i64 x12.1), (32, .int .i64 x12.2), (9, .int .i64 x12.1), (10, .int .i64 x12.2)] _ _ _ (by kernel_rfl) ?_
  refine x_end rfl ?_
  refine k_then ?_
  refine c_norm [(4, .int .i64 x6.1), (7, .int .i64 x10.1), (8, .int .i64 x10.2), (9, .int .i64 x12.1), (10, .int .i64 x12.2)] ⟨rfl, rfl, rfl, rfl, rfl, trivial⟩ (fun J => ?_)
  refine c_seq ?_
  refine c_seq ?_
  refine c_plain ?_
  refine x_pure 3 [(33, .int .i64 x12.2), (34, .bool (x12.2 != 0)), (35, .bool (x12.2 != 0))] _ _ _ (by kernel_rfl) ?_
  refine x_split 35 (x12.2 != 0) rfl (fun hb => ?_) (fun hb => ?_)
  · replace h := ite_t hb h
    refine x_pure 6 [(36, undef), (37, undef), (38, undef), (39, undef), (40, undef), (41, .bool true)] _ _ _ (by kernel_rfl) ?_
    refine x_end rfl ?_
    refine k_then ?_
    refine c_norm [(4, .int .i64 x6.1), (7, .int .i64 x10.1), (8, .int .i64 x10.2), (9, .int .i64 x12.1), (41, .bool true)] ⟨rfl, rfl, rfl, rfl, rfl, trivial⟩ (fun J => ?_)
    refine c_true rfl ?_
    refine c_seq ?_
    refine c_plain ?_
    refine x_pure 3 [(42, .int .i64 x10.2), (43, .bool (x10.2 == 15)), (44, .bool (x10.2 == 15))] _ _ _ (by kernel_rfl) ?_
    refine x_split 44 (x10.2 == 15) rfl (fun hb => ?_) (fun hb => ?_)
    · replace h := ite_t hb h
      obtain ⟨x14, hx, h⟩ := bind_some h
      have hcall := law12_sane_w _ w13 hx
      refine x_call 14 #[] #[] [] _ rfl rfl rfl rfl hcall ?_
      rintro v w15 ⟨rfl, he15⟩
      clear hcall hx
      refine ⟨.inl rfl, ?_⟩
      have hst := Stp.ext (ls := [[b0_3], M]) he15
      replace hf3_1 := he15.box hf3_1 (fun h => by cases h)
      replace hf3_2 := hf3_2.step hst
      replace hms := hms.ev he15
      replace hev := hev.ext he15
      refine x_pure 2 [(46, .bool x14), (2, .bool x14)] _ _ _ (by kernel_rfl) ?_
      refine x_end rfl ?_
      refine k_then ?_
      refine c_norm [(2, .bool x14)] ⟨rfl, trivial⟩ (fun J => ?_)
      refine c_ret ?_
      refine k_then_ret ?_
      refine r_ret (r_one (.bool x14) rfl ?_)
      have hx := some_inj h
      subst hx
      have hsu : ∀ x ∈ fl [M], x ∈ fl [[b0_3], M] := fl_right (loc := [[b0_3]]) (par := [M])
      exact ⟨rfl, hev⟩
    · replace h := ite_f hb h
      refine x_pure 3 [(45, undef), (46, .bool false), (2, .bool false)] _ _ _ (by kernel_rfl) ?_
      refine x_end rfl ?_
      refine k_then ?_
      refine c_norm [(2, .bool false)] ⟨rfl, trivial⟩ (fun J => ?_)
      refine c_ret ?_
      refine k_then_ret ?_
      refine r_ret (r_one (.bool false) rfl ?_)
      have hx := some_inj h
      subst hx
      have hsu : ∀ x ∈ fl [M], x ∈ fl [[b0_3], M] := fl_right (loc := [[b0_3]]) (par := [M])
      exact ⟨rfl, hev⟩
  · replace h := ite_f hb h
    refine x_pure 3 [(36, .int .i64 x12.1), (37, .int .i64 x6.1), (38, .int .i64 (IntKind.i64.wrap (12 - x6.1)))] _ _ _ (by kernel_rfl) ?_
    refine x_binop (.int .i64 (IntKind.i64.wrap (1 * 2 ^ (min (Int.toNat ((IntKind.i64.wrap (12 - x6.1)))) IntKind.i64.bits)))) (.int .i64 1) (.int .i64 (IntKind.i64.wrap (12 - x6.1))) rfl rfl rfl rfl (vb_shl (guard_l h)) ?_
    replace h := guard_r h
    refine x_pure 2 [(40, .bool (decide (x12.1 ≥ (IntKind.i64.wrap (1 * 2 ^ (min (Int.toNat ((IntKind.i64.wrap (12 - x6.1)))) IntKind.i64.bits)))))), (41, .bool (decide (x12.1 ≥ (IntKind.i64.wrap (1 * 2 ^ (min (Int.toNat ((IntKind.i64.wrap (12 - x6.1)))) IntKind.i64.bits))))))] _ _ _ (by kernel_rfl) ?_
    refine x_end rfl ?_
    refine k_then ?_
    refine c_norm [(4, .int .i64 x6.1), (7, .int .i64 x10.1), (8, .int .i64 x10.2), (9, .int .i64 x12.1), (41, .bool (decide (x12.1 ≥ (IntKind.i64.wrap (1 * 2 ^ (min (Int.toNat ((IntKind.i64.wrap (12 - x6.1)))) IntKind.i64.bits))))))] ⟨rfl, rfl, rfl, rfl, rfl, trivial⟩ (fun J => ?_)
    refine c_cond (decide (x12.1 ≥ (IntKind.i64.wrap (1 * 2 ^ (min (Int.toNat ((IntKind.i64.wrap (12 - x6.1)))) IntKind.i64.bits))))) rfl (fun hb => ?_) (fun hb => ?_)
    · replace h := ite_t hb h
      refine c_seq ?_
      refine c_plain ?_
      refine x_pure 3 [(42, .int .i64 x10.2), (43, .bool (x10.2 == 15)), (44, .bool (x10.2 == 15))] _ _ _ (by kernel_rfl) ?_
      refine x_split 44 (x10.2 == 15) rfl (fun hb => ?_) (fun hb => ?_)
      · replace h := ite_t hb h
        obtain ⟨x16, hx, h⟩ := bind_some h
        have hcall := law12_sane_w _ w13 hx
        refine x_call 14 #[] #[] [] _ rfl rfl rfl rfl hcall ?_
        rintro v w17 ⟨rfl, he17⟩
        clear hcall hx
        refine ⟨.inl rfl, ?_⟩
        have hst := Stp.ext (ls := [[b0_3], M]) he17
        replace hf3_1 := he17.box hf3_1 (fun h => by cases h)
        replace hf3_2 := hf3_2.step hst
        replace hms := hms.ev he17
        replace hev := hev.ext he17
        refine x_pure 2 [(46, .bool x16), (2, .bool x16)] _ _ _ (by kernel_rfl) ?_
        refine x_end rfl ?_
        refine k_then ?_
        refine c_norm [(2, .bool x16)] ⟨rfl, trivial⟩ (fun J => ?_)
        refine c_ret ?_
        refine k_then_ret ?_
        refine r_ret (r_one (.bool x16) rfl ?_)
        have hx := some_inj h
        subst hx
        have hsu : ∀ x ∈ fl [M], x ∈ fl [[b0_3], M] := fl_right (loc := [[b0_3]]) (par := [M])
        exact ⟨rfl, hev⟩
      · replace h := ite_f hb h
        refine x_pure 3 [(45, undef), (46, .bool false), (2, .bool false)] _ _ _ (by kernel_rfl) ?_
        refine x_end rfl ?_
        refine k_then ?_
        refine c_norm [(2, .bool false)] ⟨rfl, trivial⟩ (fun J => ?_)
        refine c_ret ?_
        refine k_then_ret ?_
        refine r_ret (r_one (.bool false) rfl ?_)
        have hx := some_inj h
        subst hx
        have hsu : ∀ x ∈ fl [M], x ∈ fl [[b0_3], M] := fl_right (loc := [[b0_3]]) (par := [M])
        exact ⟨rfl, hev⟩
    · replace h := ite_f hb h
      refine c_skip ?_
      refine k_then ?_
      refine c_norm [(4, .int .i64 x6.1), (7, .int .i64 x10.1), (8, .int .i64 x10.2), (9, .int .i64 x12.1)] ⟨rfl, rfl, rfl, rfl, trivial⟩ (fun J => ?_)
      refine c_seq ?_
      refine c_drawn [] [(0, false), (1, false), (2, false), (3, false), (4, false), (5, false), (6, false), (7, false), (8, false), (9, false), (10, false), (11, false), (12, false), (13, false), (14, false), (15, false), (16, false)] _ (by kernel_rfl) rfl ?_
      have hst := Stp.ext (ls := [[b0_3], M]) (Ev.drew w13)
      replace hf3_1 := (Ev.drew w13).box hf3_1 (fun h => by cases h)
      replace hf3_2 := hf3_2.step hst
      replace hms := hms.ev (Ev.drew w13)
      replace hev := hev.ext (Ev.drew w13)
      refine x_pure 3 [(47, .int .i64 x10.2), (48, .bool (x10.2 == 0)), (49, .bool (x10.2 == 0))] _ _ _ (by kernel_rfl) ?_
      refine x_split 49 (x10.2 == 0) rfl (fun hb => ?_) (fun hb => ?_)
      · replace h := ite_t hb h
        refine x_pure 3 [(50, .int .i64 x10.1), (51, .int .i64 x12.1), (52, .int .i64 x6.1)] _ _ _ (by kernel_rfl) ?_
        refine x_binop (.int .i64 (IntKind.i64.wrap (x12.1 * 2 ^ (min (Int.toNat (x6.1)) IntKind.i64.bits)))) (.int .i64 x12.1) (.int .i64 x6.1) rfl rfl rfl rfl (vb_shl (guard_l h)) ?_
        replace h := guard_r h
        refine x_pure 1 [(54, .int .i64 x6.1)] _ _ _ (by kernel_rfl) ?_
        refine x_binop (.int .i64 (IntKind.i64.wrap (1 * 2 ^ (min (Int.toNat (x6.1)) IntKind.i64.bits)))) (.int .i64 1) (.int .i64 x6.1) rfl rfl rfl rfl (vb_shl (guard_l h)) ?_
        replace h := guard_r h
        refine x_pure 5 [(56, .int .i64 (IntKind.i64.wrap ((IntKind.i64.wrap (x12.1 * 2 ^ (min (Int.toNat (x6.1)) IntKind.i64.bits))) + (IntKind.i64.wrap (1 * 2 ^ (min (Int.toNat (x6.1)) IntKind.i64.bits)))))), (57, .int .i64 (IntKind.i64.wrap ((IntKind.i64.wrap ((IntKind.i64.wrap (x12.1 * 2 ^ (min (Int.toNat (x6.1)) IntKind.i64.bits))) + (IntKind.i64.wrap (1 * 2 ^ (min (Int.toNat (x6.1)) IntKind.i64.bits))))) - 1))), (58, .bool (x10.1 == (IntKind.i64.wrap ((IntKind.i64.wrap ((IntKind.i64.wrap (x12.1 * 2 ^ (min (Int.toNat (x6.1)) IntKind.i64.bits))) + (IntKind.i64.wrap (1 * 2 ^ (min (Int.toNat (x6.1)) IntKind.i64.bits))))) - 1)))), (59, .bool (x10.1 == (IntKind.i64.wrap ((IntKind.i64.wrap ((IntKind.i64.wrap (x12.1 * 2 ^ (min (Int.toNat (x6.1)) IntKind.i64.bits))) + (IntKind.i64.wrap (1 * 2 ^ (min (Int.toNat (x6.1)) IntKind.i64.bits))))) - 1)))), (60, .bool (x10.1 == (IntKind.i64.wrap ((IntKind.i64.wrap ((IntKind.i64.wrap (x12.1 * 2 ^ (min (Int.toNat (x6.1)) IntKind.i64.bits))) + (IntKind.i64.wrap (1 * 2 ^ (min (Int.toNat (x6.1)) IntKind.i64.bits))))) - 1))))] _ _ _ (by kernel_rfl) ?_
        refine x_split 60 (x10.1 == (IntKind.i64.wrap ((IntKind.i64.wrap ((IntKind.i64.wrap (x12.1 * 2 ^ (min (Int.toNat (x6.1)) IntKind.i64.bits))) + (IntKind.i64.wrap (1 * 2 ^ (min (Int.toNat (x6.1)) IntKind.i64.bits))))) - 1))) rfl (fun hb => ?_) (fun hb => ?_)
        · replace h := ite_t hb h
          obtain ⟨x18, hx, h⟩ := bind_some h
          have hcall := law12_sane_w _ (w13).drew hx
          refine x_call 14 #[] #[] [] _ rfl rfl rfl rfl hcall ?_
          rintro v w19 ⟨rfl, he19⟩
          clear hcall hx
          refine ⟨.inr he19, ?_⟩
          have hst := Stp.ext (ls := [[b0_3], M]) he19
          replace hf3_1 := he19.box hf3_1 (fun h => by cases h)
          replace hf3_2 := hf3_2.step hst
          replace hms := hms.ev he19
          replace hev := hev.ext he19
          refine x_pure 2 [(62, .bool x18), (2, .bool x18)] _ _ _ (by kernel_rfl) ?_
          refine x_end rfl ?_
          refine k_then ?_
          refine c_norm [(2, .bool x18)] ⟨rfl, trivial⟩ (fun J => ?_)
          refine c_ret ?_
          refine r_ret (r_one (.bool x18) rfl ?_)
          have hx := some_inj h
          subst hx
          have hsu : ∀ x ∈ fl [M], x ∈ fl [[b0_3], M] := fl_right (loc := [[b0_3]]) (par := [M])
          exact ⟨rfl, hev⟩
        · replace h := ite_f hb h
          refine x_pure 3 [(61, undef), (62, .bool false), (2, .bool false)] _ _ _ (by kernel_rfl) ?_
          refine x_end rfl ?_
          refine k_then ?_
          refine c_norm [(2, .bool false)] ⟨rfl, trivial⟩ (fun J => ?_)
          refine c_ret ?_
          refine r_ret (r_one (.bool false) rfl ?_)
          have hx := some_inj h
          subst hx
          have hsu : ∀ x ∈ fl [M], x ∈ fl [[b0_3], M] := fl_right (loc := [[b0_3]]) (par := [M])
          exact ⟨rfl, hev⟩
      · replace h := ite_f hb h
        refine x_pure 14 [(50, undef), (51, undef), (52, undef), (53, undef), (54, undef), (55, undef), (56, undef), (57, undef), (58, undef), (59, .bool false), (60, .bool false), (61, undef), (62, .bool false), (2, .bool false)] _ _ _ (by kernel_rfl) ?_
        refine x_end rfl ?_
        refine k_then ?_
        refine c_norm [(2, .bool false)] ⟨rfl, trivial⟩ (fun J => ?_)
        refine c_ret ?_
        refine r_ret (r_one (.bool false) rfl ?_)
        have hx := some_inj h
        subst hx
        have hsu : ∀ x ∈ fl [M], x ∈ fl [[b0_3], M] := fl_right (loc := [[b0_3]]) (par := [M])
        exact ⟨rfl, hev⟩
end Go.Proofs.Ytjcikgeffhghkaa
