/- Walks, printed by program: each function returns what the partial function of the same name returns. Conditions: those of each theorem. -/
import Derived.Test.YtjcikgeffhghkaaGT
import Derived.Test.YtjcikgeffhghkaaGcode
import Derived.Test.YtjcikgeffhghkaaGgen
import Derived.Test.YtjcikgeffhghkaaGlaw12
set_option linter.unusedVariables false
set_option maxRecDepth 4000
namespace Go.Proofs.Ytjcikgeffhghkaa
open Go Go.V Go.Proofs
def law12_CodeRanks (v_t_0 : List Int) : Option Bool :=
((gen_New v_t_0).bind fun x2 =>
((law12_form x2.1 x2.2).bind fun x6 =>
((gen_Maker_Pick x2.1 x6.2.2 ([0, 1, 2, 5, 40, 300, 2000])).bind fun x10 =>
((code_Nth x10.1 x6.1 x6.2.1).bind fun x12 =>
(if (x12.2 != 0) = true then
((code_Count 12 x6.1 x6.2.1).bind fun x14 =>
(if (x12.2 == 15) = true then
(if (x14.2 == 0) = true then
(if (decide (x14.1 ≤ x10.1)) = true then
((law12_sane).bind fun x16 =>
some x16)
else
some false)
else
some false)
else
some false))
else
((code_Rank x12.1 x6.1 x6.2.1).bind fun x18 =>
(if (x18.2 != 0) = true then
some false
else
(if (x18.1 != x10.1) = true then
some false
else
((code_Is x12.1 x6.1 x6.2.1).bind fun x20 =>
(if (!x20) = true then
some false
else
(if (decide (x10.1 > 0)) = true then
((code_Nth (IntKind.i64.wrap (x10.1 - 1)) x6.1 x6.2.1).bind fun x22 =>
((code_Next (IntKind.i64.wrap (x22.1 + 1)) x6.1 x6.2.1).bind fun x24 =>
(if (x22.2 != 0) = true then
some false
else
(if (x24.2 != 0) = true then
some false
else
(if (decide (x22.1 ≥ x12.1)) = true then
some false
else
(if (x24.1 != x12.1) = true then
some false
else
((law12_sane).bind fun x26 =>
some x26)))))))
else
((law12_sane).bind fun x28 =>
some x28))))))))))))

theorem law12_CodeRanks_w (a_v_t_0 : Option Addr) (c_v_t_0 : Nat) (v_t_0 : List Int) (r : Bool) (w : World) (M : List Nat) (hms : MS w [M]) (hs_v_t_0 : SlR (eInt .i64) w (fl [M]) a_v_t_0 c_v_t_0 v_t_0) (h : law12_CodeRanks v_t_0 = some r) : CallVC Try.prog 7 [.slice a_v_t_0 (v_t_0).length c_v_t_0] w fun v w' => v = .bool r ∧ Ev [] w w' := by
  refine calls_vc hmx Try.func7 (by kernel_rfl) rfl (rs := [.tmp 2]) rfl (by kernel_rfl) (args := [.slice a_v_t_0 (v_t_0).length c_v_t_0]) rfl ?_
  have hev : Ev [] w w := Ev.refl _ _
  have hfr : FR w.heap.size [] := FR.nil _
  refine c_seq ?_
  refine c_plain ?_
  refine x_pure 1 [(2, .bool false)] _ _ _ (by kernel_rfl) ?_
  refine x_end rfl ?_
  refine k_then ?_
  refine c_norm [(0, .slice a_v_t_0 (v_t_0).length c_v_t_0)] ⟨rfl, trivial⟩ (fun J => ?_)
  refine c_seq ?_
  refine c_plain ?_
  refine x_pure 1 [(17, .slice a_v_t_0 (v_t_0).length c_v_t_0)] _ _ _ (by kernel_rfl) ?_
  obtain ⟨x2, hx, h⟩ := bind_some h
  have hpk := hms.pick [some 0] [M] rfl
  have hsb : ∀ x ∈ fl [(fl [M])], x ∈ fl [M] := fun x hx => pick_sub [some 0] [M] rfl x hx
  have hcall := gen_New_w a_v_t_0 c_v_t_0 v_t_0 _ w (fl [M]) (hpk.all) (hs_v_t_0.sub hsb) hx
  refine x_call 9 #[] #[] [.slice a_v_t_0 (v_t_0).length c_v_t_0] _ rfl rfl rfl rfl hcall ?_
  rintro v w3 ⟨b0_3, a1_3, c1_3, rfl, he3, hmn3, hfn3, hf3_1, hf3_2⟩
  clear hcall hx
  refine ⟨.inl rfl, ?_⟩
  have hst : Stp (fl [M]) w (fl [[b0_3], M]) w3 := Stp.join (res := [[b0_3]]) he3 (fun _ h => by cases h) hfn3
  replace hs_v_t_0 := hs_v_t_0.step hst
  replace hms : MS w3 [[b0_3], M] := hms.join he3 hmn3 hfn3
  replace hfr : FR w.heap.size [[b0_3]] := hfr.join hfn3 hev.size
  replace hev := hev.ext he3
  have hsp : ∀ x ∈ fl [[b0_3], M], x ∈ fl [[b0_3], (fl [M])] := fl_app [[b0_3]] (fun x hx => pick_sup [some 0] [M] rfl rfl x hx)
  replace hf3_2 := hf3_2.sub hsp
  refine x_pure 1 [(3, .pointer (some ⟨b0_3, 0, none⟩))] _ _ _ (by kernel_rfl) ?_
  refine x_end rfl ?_
  refine k_then ?_
  refine c_norm [(3, .pointer (some ⟨b0_3, 0, none⟩))] ⟨rfl, trivial⟩ (fun J => ?_)
  refine c_seq ?_
  refine c_plain ?_
  refine x_pure 1 [(20, .pointer (some ⟨b0_3, 0, none⟩))] _ _ _ (by kernel_rfl) ?_
  obtain ⟨x6, hx, h⟩ := bind_some h
  have hpk := hms.pick [some 0, some 1] [[b0_3], M] rfl
  have hsb : ∀ x ∈ fl [[b0_3], (fl [M])], x ∈ fl [[b0_3], M] := fun x hx => pick_sub [some 0, some 1] [[b0_3], M] rfl x (focus_sub (ls := [[b0_3], M]) 0 rfl x hx)
  have hcall := law12_form_w b0_3 a1_3 c1_3 x2.1 x2.2 _ w3 (fl [M]) (hpk.focus 0 rfl) (hf3_2.sub hsb) hf3_1 hx
  refine x_call 10 #[] #[] [.pointer (some ⟨b0_3, 0, none⟩)] _ rfl rfl rfl rfl hcall ?_
  rintro v w7 ⟨rfl, he7, hbn7⟩
  clear hcall hx
  refine ⟨.inl rfl, ?_⟩
  have hst := Stp.ev' (ls := [[b0_3], M]) he7 (mem_flat 0 rfl)
  replace hf3_2 := hf3_2.step hst
  replace hms := hms.ev he7
  replace hev := hev.then he7 (fun b hb => .inr (hfr.at 0 rfl b hb))
  replace hf3_1 := hbn7
  refine x_pure 5 [(19, .tuple #[.int .i64 x6.1, .int .i64 x6.2.1]), (22, .int .i64 x6.1), (23, .int .i64 x6.2.1), (4, .int .i64 x6.1), (5, .int .i64 x6.2.1)] _ _ _ (by kernel_rfl) ?_
  refine x_end rfl ?_
  refine k_then ?_
  refine c_norm [(3, .pointer (some ⟨b0_3, 0, none⟩)), (4, .int .i64 x6.1), (5, .int .i64 x6.2.1)] ⟨rfl, rfl, rfl, trivial⟩ (fun J => ?_)
  refine c_seq ?_
  refine c_plain ?_
  refine x_pure 1 [(24, .pointer (some ⟨b0_3, 0, none⟩))] _ _ _ (by kernel_rfl) ?_
  refine x_buildSlice (vs := [(0, .int .i64 0), (1, .int .i64 1), (2, .int .i64 2), (3, .int .i64 5), (4, .int .i64 40), (5, .int .i64 300), (6, .int .i64 2000)]) #[.int .i64 0, .int .i64 1, .int .i64 2, .int .i64 5, .int .i64 40, .int .i64 300, .int .i64 2000] 3 rfl rfl rfl (by kernel_rfl) (fun b8 w8 hq8 hb8 he8 _ => ?_)
  refine ⟨.inl rfl, ?_⟩
  have hs8 : SlR (eInt .i64) w8 (fl [[b0_3], M]) (some ⟨b8, 0, none⟩) 7 ([0, 1, 2, 5, 40, 300, 2000]) := ro_of_box hms hq8 hb8 rfl rfl (vals_at (Value.int .i64) rfl (fun _ _ _ => rfl) _ _ _)
  clear hb8
  have hst := Stp.ext (ls := [[b0_3], M]) he8
  replace hf3_1 := he8.box hf3_1 (fun h => by cases h)
  replace hf3_2 := hf3_2.step hst
  replace hms := hms.ev he8
  replace hev := hev.ext he8
  obtain ⟨x10, hx, h⟩ := bind_some h
  have hpk := hms.pick [some 0, some 1] [[b0_3], M] rfl
  have hsb : ∀ x ∈ fl [[b0_3], (fl [M])], x ∈ fl [[b0_3], M] := fun x hx => pick_sub [some 0, some 1] [[b0_3], M] rfl x (focus_sub (ls := [[b0_3], M]) 0 rfl x hx)
  have hcall := gen_Maker_Pick_w b0_3 a1_3 c1_3 x2.1 x6.2.2 (some ⟨b8, 0, none⟩) 7 ([0, 1, 2, 5, 40, 300, 2000]) _ w8 (fl [M]) (hpk.focus 0 rfl) (hf3_2.sub hsb) hf3_1 (hs8.sub hsb) hx
  refine x_call 20 #[] #[] [.pointer (some ⟨b0_3, 0, none⟩), .slice (some ⟨b8, 0, none⟩) ([0, 1, 2, 5, 40, 300, 2000]).length 7] _ rfl rfl rfl rfl hcall ?_
  rintro v w11 ⟨rfl, he11, hbn11⟩
  clear hcall hx
  refine ⟨.inl rfl, ?_⟩
  have hst := Stp.ev' (ls := [[b0_3], M]) he11 (mem_flat 0 rfl)
  replace hf3_2 := hf3_2.step hst
  replace hs8 := hs8.step hst
  replace hms := hms.ev he11
  replace hev := hev.then he11 (fun b hb => .inr (hfr.at 0 rfl b hb))
  replace hf3_1 := hbn11
  refine x_pure 1 [(6, .int .i64 x10.1)] _ _ _ (by kernel_rfl) ?_
  refine x_end rfl ?_
  refine k_then ?_
  refine c_norm [(4, .int .i64 x6.1), (5, .int .i64 x6.2.1), (6, .int .i64 x10.1)] ⟨rfl, rfl, rfl, trivial⟩ (fun J => ?_)
  refine c_seq ?_
  refine c_plain ?_
  refine x_pure 3 [(28, .int .i64 x10.1), (29, .int .i64 x6.1), (30, .int .i64 x6.2.1)] _ _ _ (by kernel_rfl) ?_
  obtain ⟨x12, hx, h⟩ := bind_some h
  have hcall := code_Nth_w x10.1 x6.1 x6.2.1 _ w11 hx
  refine x_call 15 #[] #[] [.int .i64 x10.1, .int .i64 x6.1, .int .i64 x6.2.1] _ rfl rfl rfl rfl hcall ?_
  rintro v w13 ⟨rfl, he13⟩
  clear hcall hx
  refine ⟨.inl rfl, ?_⟩
  have hst := Stp.ext (ls := [[b0_3], M]) he13
  replace hf3_1 := he13.box hf3_1 (fun h => by cases h)
  replace hf3_2 := hf3_2.step hst
  replace hms := hms.ev he13
  replace hev := hev.ext he13
  refine x_pure 5 [(27, .tuple #[.int .i64 x12.1, .int .i64 x12.2]), (32, .int .i64 x12.1), (33, .int .i64 x12.2), (7, .int .i64 x12.1), (8, .int .i64 x12.2)] _ _ _ (by kernel_rfl) ?_
  refine x_end rfl ?_
  refine k_then ?_
  refine c_norm [(4, .int .i64 x6.1), (5, .int .i64 x6.2.1), (6, .int .i64 x10.1), (7, .int .i64 x12.1), (8, .int .i64 x12.2)] ⟨rfl, rfl, rfl, rfl, rfl, trivial⟩ (fun J => ?_)
  refine c_seq ?_
  refine c_seq ?_
  refine c_plain ?_
  refine x_pure 2 [(34, .int .i64 x12.2), (35, .bool (x12.2 != 0))] _ _ _ (by kernel_rfl) ?_
  refine x_end rfl ?_
  refine k_then ?_
  refine c_norm [(4, .int .i64 x6.1), (5, .int .i64 x6.2.1), (6, .int .i64 x10.1), (7, .int .i64 x12.1), (8, .int .i64 x12.2), (35, .bool (x12.2 != 0))] ⟨rfl, rfl, rfl, rfl, rfl, rfl, trivial⟩ (fun J => ?_)
  refine c_cond (x12.2 != 0) rfl (fun hb => ?_) (fun hb => ?_)
  · replace h := ite_t hb h
    refine c_seq ?_
    refine c_plain ?_
    refine x_pure 2 [(37, .int .i64 x6.1), (38, .int .i64 x6.2.1)] _ _ _ (by kernel_rfl) ?_
    obtain ⟨x14, hx, h⟩ := bind_some h
    have hcall := code_Count_w 12 x6.1 x6.2.1 _ w13 hx
    refine x_call 16 #[] #[] [.int .i64 12, .int .i64 x6.1, .int .i64 x6.2.1] _ rfl rfl rfl rfl hcall ?_
    rintro v w15 ⟨rfl, he15⟩
    clear hcall hx
    refine ⟨.inl rfl, ?_⟩
    have hst := Stp.ext (ls := [[b0_3], M]) he15
    replace hf3_1 := he15.box hf3_1 (fun h => by cases h)
    replace hf3_2 := hf3_2.step hst
    replace hms := hms.ev he15
    replace hev := hev.ext he15
    refine x_pure 5 [(36, .tuple #[.int .i64 x14.1, .int .i64 x14.2]), (40, .int .i64 x14.1), (41, .int .i64 x14.2), (9, .int .i64 x14.1), (10, .int .i64 x14.2)] _ _ _ (by kernel_rfl) ?_
    refine x_end rfl ?_
    refine k_then ?_
    refine c_norm [(6, .int .i64 x10.1), (8, .int .i64 x12.2), (9, .int .i64 x14.1), (10, .int .i64 x14.2)] ⟨rfl, rfl, rfl, rfl, trivial⟩ (fun J => ?_)
    refine c_seq ?_
    refine c_plain ?_
    refine x_pure 3 [(42, .int .i64 x12.2), (43, .bool (x12.2 == 15)), (44, .bool (x12.2 == 15))] _ _ _ (by kernel_rfl) ?_
    refine x_split 44 (x12.2 == 15) rfl (fun hb => ?_) (fun hb => ?_)
    · replace h := ite_t hb h
      refine x_pure 4 [(45, .int .i64 x14.2), (46, .bool (x14.2 == 0)), (47, .bool (x14.2 == 0)), (48, .bool (x14.2 == 0))] _ _ _ (by kernel_rfl) ?_
      refine x_split 48 (x14.2 == 0) rfl (fun hb => ?_) (fun hb => ?_)
      · replace h := ite_t hb h
        refine x_pure 5 [(49, .int .i64 x14.1), (50, .int .i64 x10.1), (51, .bool (decide (x14.1 ≤ x10.1))), (52, .bool (decide (x14.1 ≤ x10.1))), (53, .bool (decide (x14.1 ≤ x10.1)))] _ _ _ (by kernel_rfl) ?_
        refine x_split 53 (decide (x14.1 ≤ x10.1)) rfl (fun hb => ?_) (fun hb => ?_)
        · replace h := ite_t hb h
          obtain ⟨x16, hx, h⟩ := bind_some h
          have hcall := law12_sane_w _ w15 hx
          refine x_call 14 #[] #[] [] _ rfl rfl rfl rfl hcall ?_
          rintro v w17 ⟨rfl, he17⟩
          clear hcall hx
          refine ⟨.inl rfl, ?_⟩
          have hst := Stp.ext (ls := [[b0_3], M]) he17
          replace hf3_1 := he17.box hf3_1 (fun h => by cases h)
          replace hf3_2 := hf3_2.step hst
          replace hms := hms.ev he17
          replace hev := hev.ext he17
          refine x_pure 2 [(55, .bool x16), (2, .bool x16)] _ _ _ (by kernel_rfl) ?_
          refine x_end rfl ?_
          refine k_then ?_
          refine c_norm [(2, .bool x16)] ⟨rfl, trivial⟩ (fun J => ?_)
          refine c_ret ?_
          refine k_then_ret ?_
          refine r_ret (r_one (.bool x16) rfl ?_)
          have hx := some_inj h
          subst hx
          have hsu : ∀ x ∈ fl [M], x ∈ fl [[b0_3], M] := fl_right (loc := [[b0_3]]) (par := [M])
          exact ⟨rfl, hev⟩
        · replace h := ite_f hb h
          refine x_pure 3 [(54, undef), (55, .bool false), (2, .bool false)] _ _ _ (by kernel_rfl) ?_
          refine x_end rfl ?_
          refine k_then ?_
          refine c_norm [(2, .bool false)] ⟨rfl, trivial⟩ (fun J => ?_)
          refine c_ret ?_
          refine k_then_ret ?_
          refine r_ret (r_one (.bool false) rfl ?_)
          have hx := some_inj h
          subst hx
          have hsu : ∀ x ∈ fl [M], x ∈ fl [[b0_3], M] := fl_right (loc := [[b0_3]]) (par := [M])
          exact ⟨rfl, hev⟩
      · replace h := ite_f hb h
        refine x_pure 8 [(49, undef), (50, undef), (51, undef), (52, .bool false), (53, .bool false), (54, undef), (55, .bool false), (2, .bool false)] _ _ _ (by kernel_rfl) ?_
        refine x_end rfl ?_
        refine k_then ?_
        refine c_norm [(2, .bool false)] ⟨rfl, trivial⟩ (fun J => ?_)
        refine c_ret ?_
        refine k_then_ret ?_
        refine r_ret (r_one (.bool false) rfl ?_)
        have hx := some_inj h
        subst hx
        have hsu : ∀ x ∈ fl [M], x ∈ fl [[b0_3], M] := fl_right (loc := [[b0_3]]) (par := [M])
        exact ⟨rfl, hev⟩
    · replace h := ite_f hb h
      refine x_pure 12 [(45, undef), (46, undef), (47, .bool false), (48, .bool false), (49, undef), (50, undef), (51, undef), (52, .bool false), (53, .bool false), (54, undef), (55, .bool false), (2, .bool false)] _ _ _ (by kernel_rfl) ?_
      refine x_end rfl ?_
      refine k_then ?_
      refine c_norm [(2, .bool false)] ⟨rfl, trivial⟩ (fun J => ?_)
      refine c_ret ?_
      refine k_then_ret ?_
      refine r_ret (r_one (.bool false) rfl ?_)
      have hx := some_inj h
      subst hx
      have hsu : ∀ x ∈ fl [M], x ∈ fl [[b0_3], M] := fl_right (loc := [[b0_3]]) (par := [M])
      exact ⟨rfl, hev⟩
  · replace h := ite_f hb h
    refine c_skip ?_
    refine k_then ?_
    refine c_norm [(4, .int .i64 x6.1), (5, .int .i64 x6.2.1), (6, .int .i64 x10.1), (7, .int .i64 x12.1)] ⟨rfl, rfl, rfl, rfl, trivial⟩ (fun J => ?_)
    refine c_seq ?_
    refine c_plain ?_
    refine x_pure 3 [(57, .int .i64 x12.1), (58, .int .i64 x6.1), (59, .int .i64 x6.2.1)] _ _ _ (by kernel_rfl) ?_
    obtain ⟨x18, hx, h⟩ := bind_some h
    have hcall := code_Rank_w x12.1 x6.1 x6.2.1 _ w13 hx
    refine x_call 17 #[] #[] [.int .i64 x12.1, .int .i64 x6.1, .int .i64 x6.2.1] _ rfl rfl rfl rfl hcall ?_
    rintro v w19 ⟨rfl, he19⟩
    clear hcall hx
    refine ⟨.inl rfl, ?_⟩
    have hst := Stp.ext (ls := [[b0_3], M]) he19
    replace hf3_1 := he19.box hf3_1 (fun h => by cases h)
    replace hf3_2 := hf3_2.step hst
    replace hms := hms.ev he19
    replace hev := hev.ext he19
    refine x_pure 5 [(56, .tuple #[.int .i64 x18.1, .int .i64 x18.2]), (61, .int .i64 x18.1), (62, .int .i64 x18.2), (11, .int .i64 x18.1), (12, .int .i64 x18.2)] _ _ _ (by kernel_rfl) ?_
    refine x_end rfl ?_
    refine k_then ?_
    refine c_norm [(4, .int .i64 x6.1), (5, .int .i64 x6.2.1), (6, .int .i64 x10.1), (7, .int .i64 x12.1), (11, .int .i64 x18.1), (12, .int .i64 x18.2)] ⟨rfl, rfl, rfl, rfl, rfl, rfl, trivial⟩ (fun J => ?_)
    refine c_seq ?_
    refine c_seq ?_
    refine c_plain ?_
    refine x_pure 3 [(63, .int .i64 x18.2), (64, .bool (x18.2 != 0)), (65, .bool (x18.2 != 0))] _ _ _ (by kernel_rfl) ?_
    refine x_split 65 (x18.2 != 0) rfl (fun hb => ?_) (fun hb => ?_)
    · replace h := ite_t hb h
      refine x_pure 11 [(66, undef), (67, undef), (68, undef), (69, .bool true), (70, .bool true), (71, undef), (72, undef), (73, undef), (74, undef), (75, undef), (76, .bool true)] _ _ _ (by kernel_rfl) ?_
      refine x_end rfl ?_
      refine k_then ?_
      refine c_norm [(4, .int .i64 x6.1), (5, .int .i64 x6.2.1), (6, .int .i64 x10.1), (7, .int .i64 x12.1), (76, .bool true)] ⟨rfl, rfl, rfl, rfl, rfl, trivial⟩ (fun J => ?_)
      refine c_true rfl ?_
      refine c_seq ?_
      refine c_plain ?_
      refine x_pure 1 [(2, .bool false)] _ _ _ (by kernel_rfl) ?_
      refine x_end rfl ?_
      refine k_then ?_
      refine c_norm [(2, .bool false)] ⟨rfl, trivial⟩ (fun J => ?_)
      refine c_ret ?_
      refine k_then_ret ?_
      refine r_ret (r_one (.bool false) rfl ?_)
      have hx := some_inj h
      subst hx
      have hsu : ∀ x ∈ fl [M], x ∈ fl [[b0_3], M] := fl_right (loc := [[b0_3]]) (par := [M])
      exact ⟨rfl, hev⟩
    · replace h := ite_f hb h
      refine x_pure 5 [(66, .int .i64 x18.1), (67, .int .i64 x10.1), (68, .bool (x18.1 != x10.1)), (69, .bool (x18.1 != x10.1)), (70, .bool (x18.1 != x10.1))] _ _ _ (by kernel_rfl) ?_
      refine x_split 70 (x18.1 != x10.1) rfl (fun hb => ?_) (fun hb => ?_)
      · replace h := ite_t hb h
        refine x_pure 6 [(71, undef), (72, undef), (73, undef), (74, undef), (75, undef), (76, .bool true)] _ _ _ (by kernel_rfl) ?_
        refine x_end rfl ?_
        refine k_then ?_
        refine c_norm [(4, .int .i64 x6.1), (5, .int .i64 x6.2.1), (6, .int .i64 x10.1), (7, .int .i64 x12.1), (76, .bool true)] ⟨rfl, rfl, rfl, rfl, rfl, trivial⟩ (fun J => ?_)
        refine c_true rfl ?_
        refine c_seq ?_
        refine c_plain ?_
        refine x_pure 1 [(2, .bool false)] _ _ _ (by kernel_rfl) ?_
        refine x_end rfl ?_
        refine k_then ?_
        refine c_norm [(2, .bool false)] ⟨rfl, trivial⟩ (fun J => ?_)
        refine c_ret ?_
        refine k_then_ret ?_
        refine r_ret (r_one (.bool false) rfl ?_)
        have hx := some_inj h
        subst hx
        have hsu : ∀ x ∈ fl [M], x ∈ fl [[b0_3], M] := fl_right (loc := [[b0_3]]) (par := [M])
        exact ⟨rfl, hev⟩
      · replace h := ite_f hb h
        refine x_pure 3 [(71, .int .i64 x12.1), (72, .int .i64 x6.1), (73, .int .i64 x6.2.1)] _ _ _ (by kernel_rfl) ?_
        obtain ⟨x20, hx, h⟩ := bind_some h
        have hcall := code_Is_w x12.1 x6.1 x6.2.1 _ w19 hx
        refine x_call 13 #[] #[] [.int .i64 x12.1, .int .i64 x6.1, .int .i64 x6.2.1] _ rfl rfl rfl rfl hcall ?_
        rintro v w21 ⟨rfl, he21⟩
        clear hcall hx
        refine ⟨.inl rfl, ?_⟩
        have hst := Stp.ext (ls := [[b0_3], M]) he21
        replace hf3_1 := he21.box hf3_1 (fun h => by cases h)
        replace hf3_2 := hf3_2.step hst
        replace hms := hms.ev he21
        replace hev := hev.ext he21
        refine x_pure 2 [(75, .bool (!x20)), (76, .bool (!x20))] _ _ _ (by kernel_rfl) ?_
        refine x_end rfl ?_
        refine k_then ?_
        refine c_norm [(4, .int .i64 x6.1), (5, .int .i64 x6.2.1), (6, .int .i64 x10.1), (7, .int .i64 x12.1), (76, .bool (!x20))] ⟨rfl, rfl, rfl, rfl, rfl, trivial⟩ (fun J => ?_)
        refine c_cond (!x20) rfl (fun hb => ?_) (fun hb => ?_)
        · replace h := ite_t hb h
          refine c_seq ?_
          refine c_plain ?_
          refine x_pure 1 [(2, .bool false)] _ _ _ (by kernel_rfl) ?_
          refine x_end rfl ?_
          refine k_then ?_
          refine c_norm [(2, .bool false)] ⟨rfl, trivial⟩ (fun J => ?_)
          refine c_ret ?_
          refine k_then_ret ?_
          refine r_ret (r_one (.bool false) rfl ?_)
          have hx := some_inj h
          subst hx
          have hsu : ∀ x ∈ fl [M], x ∈ fl [[b0_3], M] := fl_right (loc := [[b0_3]]) (par := [M])
          exact ⟨rfl, hev⟩
        · replace h := ite_f hb h
          refine c_skip ?_
          refine k_then ?_
          refine c_norm [(4, .int .i64 x6.1), (5, .int .i64 x6.2.1), (6, .int .i64 x10.1), (7, .int .i64 x12.1)] ⟨rfl, rfl, rfl, rfl, trivial⟩ (fun J => ?_)
          refine c_seq ?_
          refine c_seq ?_
          refine c_plain ?_
          refine x_pure 2 [(77, .int .i64 x10.1), (78, .bool (decide (x10.1 > 0)))] _ _ _ (by kernel_rfl) ?_
          refine x_end rfl ?_
          refine k_then ?_
          refine c_norm [(4, .int .i64 x6.1), (5, .int .i64 x6.2.1), (6, .int .i64 x10.1), (7, .int .i64 x12.1), (78, .bool (decide (x10.1 > 0)))] ⟨rfl, rfl, rfl, rfl, rfl, trivial⟩ (fun J => ?_)
          refine c_cond (decide (x10.1 > 0)) rfl (fun hb => ?_) (fun hb => ?_)
          · replace h := ite_t hb h
            refine c_seq ?_
            refine c_plain ?_
            refine x_pure 4 [(80, .int .i64 x10.1), (81, .int .i64 (IntKind.i64.wrap (x10.1 - 1))), (82, .int .i64 x6.1), (83, .int .i64 x6.2.1)] _ _ _ (by kernel_rfl) ?_
            obtain ⟨x22, hx, h⟩ := bind_some h
            have hcall := code_Nth_w (IntKind.i64.wrap (x10.1 - 1)) x6.1 x6.2.1 _ w21 hx
            refine x_call 15 #[] #[] [.int .i64 (IntKind.i64.wrap (x10.1 - 1)), .int .i64 x6.1, .int .i64 x6.2.1] _ rfl rfl rfl rfl hcall ?_
            rintro v w23 ⟨rfl, he23⟩
            clear hcall hx
            refine ⟨.inl rfl, ?_⟩
            have hst := Stp.ext (ls := [[b0_3], M]) he23
            replace hf3_1 := he23.box hf3_1 (fun h => by cases h)
            replace hf3_2 := hf3_2.step hst
            replace hms := hms.ev he23
            replace hev := hev.ext he23
            refine x_pure 5 [(79, .tuple #[.int .i64 x22.1, .int .i64 x22.2]), (85, .int .i64 x22.1), (86, .int .i64 x22.2), (13, .int .i64 x22.1), (14, .int .i64 x22.2)] _ _ _ (by kernel_rfl) ?_
            refine x_end rfl ?_
            refine k_then ?_
            refine c_norm [(4, .int .i64 x6.1), (5, .int .i64 x6.2.1), (7, .int .i64 x12.1), (13, .int .i64 x22.1), (14, .int .i64 x22.2)] ⟨rfl, rfl, rfl, rfl, rfl, trivial⟩ (fun J => ?_)
            refine c_seq ?_
            refine c_plain ?_
            refine x_pure 4 [(88, .int .i64 x22.1), (89, .int .i64 (IntKind.i64.wrap (x22.1 + 1))), (90, .int .i64 x6.1), (91, .int .i64 x6.2.1)] _ _ _ (by kernel_rfl) ?_
            obtain ⟨x24, hx, h⟩ := bind_some h
            have hcall := code_Next_w (IntKind.i64.wrap (x22.1 + 1)) x6.1 x6.2.1 _ w23 hx
            refine x_call 12 #[] #[] [.int .i64 (IntKind.i64.wrap (x22.1 + 1)), .int .i64 x6.1, .int .i64 x6.2.1] _ rfl rfl rfl rfl hcall ?_
            rintro v w25 ⟨rfl, he25⟩
            clear hcall hx
            refine ⟨.inl rfl, ?_⟩
            have hst := Stp.ext (ls := [[b0_3], M]) he25
            replace hf3_1 := he25.box hf3_1 (fun h => by cases h)
            replace hf3_2 := hf3_2.step hst
            replace hms := hms.ev he25
            replace hev := hev.ext he25
            refine x_pure 5 [(87, .tuple #[.int .i64 x24.1, .int .i64 x24.2]), (93, .int .i64 x24.1), (94, .int .i64 x24.2), (15, .int .i64 x24.1), (16, .int .i64 x24.2)] _ _ _ (by kernel_rfl) ?_
            refine x_end rfl ?_
            refine k_then ?_
            refine c_norm [(7, .int .i64 x12.1), (13, .int .i64 x22.1), (14, .int .i64 x22.2), (15, .int .i64 x24.1), (16, .int .i64 x24.2)] ⟨rfl, rfl, rfl, rfl, rfl, trivial⟩ (fun J => ?_)
            refine c_seq ?_
            refine c_plain ?_
            refine x_pure 3 [(95, .int .i64 x22.2), (96, .bool (x22.2 != 0)), (97, .bool (x22.2 != 0))] _ _ _ (by kernel_rfl) ?_
            refine x_split 97 (x22.2 != 0) rfl (fun hb => ?_) (fun hb => ?_)
            · replace h := ite_t hb h
              refine x_pure 13 [(98, undef), (99, undef), (100, .bool true), (101, .bool true), (102, undef), (103, undef), (104, undef), (105, .bool true), (106, .bool true), (107, undef), (108, undef), (109, undef), (110, .bool true)] _ _ _ (by kernel_rfl) ?_
              refine x_end rfl ?_
              refine k_then ?_
              refine c_norm [(110, .bool true)] ⟨rfl, trivial⟩ (fun J => ?_)
              refine c_true rfl ?_
              refine c_seq ?_
              refine c_plain ?_
              refine x_pure 1 [(2, .bool false)] _ _ _ (by kernel_rfl) ?_
              refine x_end rfl ?_
              refine k_then ?_
              refine c_norm [(2, .bool false)] ⟨rfl, trivial⟩ (fun J => ?_)
              refine c_ret ?_
              refine k_then_ret ?_
              refine r_ret (r_one (.bool false) rfl ?_)
              have hx := some_inj h
              subst hx
              have hsu : ∀ x ∈ fl [M], x ∈ fl [[b0_3], M] := fl_right (loc := [[b0_3]]) (par := [M])
              exact ⟨rfl, hev⟩
            · replace h := ite_f hb h
              refine x_pure 4 [(98, .int .i64 x24.2), (99, .bool (x24.2 != 0)), (100, .bool (x24.2 != 0)), (101, .bool (x24.2 != 0))] _ _ _ (by kernel_rfl) ?_
              refine x_split 101 (x24.2 != 0) rfl (fun hb => ?_) (fun hb => ?_)
              · replace h := ite_t hb h
                refine x_pure 9 [(102, undef), (103, undef), (104, undef), (105, .bool true), (106, .bool true), (107, undef), (108, undef), (109, undef), (110, .bool true)] _ _ _ (by kernel_rfl) ?_
                refine x_end rfl ?_
                refine k_then ?_
                refine c_norm [(110, .bool true)] ⟨rfl, trivial⟩ (fun J => ?_)
                refine c_true rfl ?_
                refine c_seq ?_
                refine c_plain ?_
                refine x_pure 1 [(2, .bool false)] _ _ _ (by kernel_rfl) ?_
                refine x_end rfl ?_
                refine k_then ?_
                refine c_norm [(2, .bool false)] ⟨rfl, trivial⟩ (fun J => ?_)
                refine c_ret ?_
                refine k_then_ret ?_
                refine r_ret (r_one (.bool false) rfl ?_)
                have hx := some_inj h
                subst hx
                have hsu : ∀ x ∈ fl [M], x ∈ fl [[b0_3], M] := fl_right (loc := [[b0_3]]) (par := [M])
                exact ⟨rfl, hev⟩
              · replace h := ite_f hb h
                refine x_pure 5 [(102, .int .i64 x22.1), (103, .int .i64 x12.1), (104, .bool (decide (x22.1 ≥ x12.1))), (105, .bool (decide (x22.1 ≥ x12.1))), (106, .bool (decide (x22.1 ≥ x12.1)))] _ _ _ (by kernel_rfl) ?_
                refine x_split 106 (decide (x22.1 ≥ x12.1)) rfl (fun hb => ?_) (fun hb => ?_)
                · replace h := ite_t hb h
                  refine x_pure 4 [(107, undef), (108, undef), (109, undef), (110, .bool true)] _ _ _ (by kernel_rfl) ?_
                  refine x_end rfl ?_
                  refine k_then ?_
                  refine c_norm [(110, .bool true)] ⟨rfl, trivial⟩ (fun J => ?_)
                  refine c_true rfl ?_
                  refine c_seq ?_
                  refine c_plain ?_
                  refine x_pure 1 [(2, .bool false)] _ _ _ (by kernel_rfl) ?_
                  refine x_end rfl ?_
                  refine k_then ?_
                  refine c_norm [(2, .bool false)] ⟨rfl, trivial⟩ (fun J => ?_)
                  refine c_ret ?_
                  refine k_then_ret ?_
                  refine r_ret (r_one (.bool false) rfl ?_)
                  have hx := some_inj h
                  subst hx
                  have hsu : ∀ x ∈ fl [M], x ∈ fl [[b0_3], M] := fl_right (loc := [[b0_3]]) (par := [M])
                  exact ⟨rfl, hev⟩
                · replace h := ite_f hb h
                  refine x_pure 4 [(107, .int .i64 x24.1), (108, .int .i64 x12.1), (109, .bool (x24.1 != x12.1)), (110, .bool (x24.1 != x12.1))] _ _ _ (by kernel_rfl) ?_
                  refine x_end rfl ?_
                  refine k_then ?_
                  refine c_norm [(110, .bool (x24.1 != x12.1))] ⟨rfl, trivial⟩ (fun J => ?_)
                  refine c_cond (x24.1 != x12.1) rfl (fun hb => ?_) (fun hb => ?_)
                  · replace h := ite_t hb h
                    refine c_seq ?_
                    refine c_plain ?_
                    refine x_pure 1 [(2, .bool false)] _ _ _ (by kernel_rfl) ?_
                    refine x_end rfl ?_
                    refine k_then ?_
                    refine c_norm [(2, .bool false)] ⟨rfl, trivial⟩ (fun J => ?_)
                    refine c_ret ?_
                    refine k_then_ret ?_
                    refine r_ret (r_one (.bool false) rfl ?_)
                    have hx := some_inj h
                    subst hx
                    have hsu : ∀ x ∈ fl [M], x ∈ fl [[b0_3], M] := fl_right (loc := [[b0_3]]) (par := [M])
                    exact ⟨rfl, hev⟩
                  · replace h := ite_f hb h
                    refine c_skip ?_
                    refine k_then ?_
                    refine c_norm [] trivial (fun J => ?_)
                    refine c_seq ?_
                    refine c_plain ?_
                    obtain ⟨x26, hx, h⟩ := bind_some h
                    have hcall := law12_sane_w _ w25 hx
                    refine x_call 14 #[] #[] [] _ rfl rfl rfl rfl hcall ?_
                    rintro v w27 ⟨rfl, he27⟩
                    clear hcall hx
                    refine ⟨.inl rfl, ?_⟩
                    have hst := Stp.ext (ls := [[b0_3], M]) he27
                    replace hf3_1 := he27.box hf3_1 (fun h => by cases h)
                    replace hf3_2 := hf3_2.step hst
                    replace hms := hms.ev he27
                    replace hev := hev.ext he27
                    refine x_pure 1 [(2, .bool x26)] _ _ _ (by kernel_rfl) ?_
                    refine x_end rfl ?_
                    refine k_then ?_
                    refine c_norm [(2, .bool x26)] ⟨rfl, trivial⟩ (fun J => ?_)
                    refine c_ret ?_
                    refine r_ret (r_one (.bool x26) rfl ?_)
                    have hx := some_inj h
                    subst hx
                    have hsu : ∀ x ∈ fl [M], x ∈ fl [[b0_3], M] := fl_right (loc := [[b0_3]]) (par := [M])
                    exact ⟨rfl, hev⟩
          · replace h := ite_f hb h
            refine c_skip ?_
            refine k_then ?_
            refine c_norm [] trivial (fun J => ?_)
            refine c_seq ?_
            refine c_plain ?_
            obtain ⟨x28, hx, h⟩ := bind_some h
            have hcall := law12_sane_w _ w21 hx
            refine x_call 14 #[] #[] [] _ rfl rfl rfl rfl hcall ?_
            rintro v w29 ⟨rfl, he29⟩
            clear hcall hx
            refine ⟨.inl rfl, ?_⟩
            have hst := Stp.ext (ls := [[b0_3], M]) he29
            replace hf3_1 := he29.box hf3_1 (fun h => by cases h)
            replace hf3_2 := hf3_2.step hst
            replace hms := hms.ev he29
            replace hev := hev.ext he29
            refine x_pure 1 [(2, .bool x28)] _ _ _ (by kernel_rfl) ?_
            refine x_end rfl ?_
            refine k_then ?_
            refine c_norm [(2, .bool x28)] ⟨rfl, trivial⟩ (fun J => ?_)
            refine c_ret ?_
            refine r_ret (r_one (.bool x28) rfl ?_)
            have hx := some_inj h
            subst hx
            have hsu : ∀ x ∈ fl [M], x ∈ fl [[b0_3], M] := fl_right (loc := [[b0_3]]) (par := [M])
            exact ⟨rfl, hev⟩
end Go.Proofs.Ytjcikgeffhghkaa
