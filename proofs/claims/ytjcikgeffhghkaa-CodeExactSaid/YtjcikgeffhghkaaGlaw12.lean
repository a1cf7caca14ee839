/- Walks, printed by program: each function returns what the partial function of the same name returns. Conditions: those of each theorem. -/
import Derived.Test.YtjcikgeffhghkaaGT
import Derived.Test.YtjcikgeffhghkaaGcode
import Derived.Test.YtjcikgeffhghkaaGgen
import Derived.Test.YtjcikgeffhghkaaGr12
set_option linter.unusedVariables false
set_option maxRecDepth 4000
namespace Go.Proofs.Ytjcikgeffhghkaa
open Go Go.V Go.Proofs
def law12_form (k_0_l : List Int) (k_0_n : Int) : Option (Int × Int × Int) :=
((gen_Maker_Pick k_0_l k_0_n ([0, 0, 1, 2, 3, 6, 12])).bind fun x5 =>
((gen_Maker_Pick k_0_l x5.2 ([0, 1, 2, 3, 5, 12])).bind fun x9 =>
some (x5.1, x9.1, x9.2)))

theorem law12_form_w (b_k_0 : Nat) (a_k_0_l : Option Addr) (c_k_0_l : Nat) (k_0_l : List Int) (k_0_n : Int) (r : Int × Int × Int) (w : World) (M : List Nat) (hms : MS w [[b_k_0], M]) (hs_k_0_l : SlR (eInt .i64) w (fl [[b_k_0], M]) a_k_0_l c_k_0_l k_0_l) (hb_k_0 : w.heap[b_k_0]? = some (.cells #[.slice a_k_0_l (k_0_l).length c_k_0_l, .int .i64 k_0_n] 41 (0, 0))) (h : law12_form k_0_l k_0_n = some r) : CallVC Try.prog 10 [.pointer (some ⟨b_k_0, 0, none⟩)] w fun v w' => v = .tuple #[.int .i64 r.1, .int .i64 r.2.1] ∧ Ev [b_k_0] w w' ∧ w'.heap[b_k_0]? = some (.cells #[.slice a_k_0_l (k_0_l).length c_k_0_l, .int .i64 r.2.2] 41 (0, 0)) := by
  refine calls_vc hmx Try.func10 (by kernel_rfl) rfl (rs := [.tmp 2, .tmp 3]) rfl (by kernel_rfl) (args := [.pointer (some ⟨b_k_0, 0, none⟩)]) rfl ?_
  have hev : Ev [b_k_0] w w := Ev.refl _ _
  have hfr : FR w.heap.size [] := FR.nil _
  refine c_seq ?_
  refine c_plain ?_
  refine x_pure 2 [(2, .int .i64 0), (3, .int .i64 0)] _ _ _ (by kernel_rfl) ?_
  refine x_end rfl ?_
  refine k_then ?_
  refine c_norm [(0, .pointer (some ⟨b_k_0, 0, none⟩))] ⟨rfl, trivial⟩ (fun J => ?_)
  refine c_seq ?_
  refine c_plain ?_
  refine x_pure 1 [(4, .pointer (some ⟨b_k_0, 0, none⟩))] _ _ _ (by kernel_rfl) ?_
  refine x_buildSlice (vs := [(0, .int .i64 0), (1, .int .i64 0), (2, .int .i64 1), (3, .int .i64 2), (4, .int .i64 3), (5, .int .i64 6), (6, .int .i64 12)]) #[.int .i64 0, .int .i64 0, .int .i64 1, .int .i64 2, .int .i64 3, .int .i64 6, .int .i64 12] 3 rfl rfl rfl (by kernel_rfl) (fun b3 w3 hq3 hb3 he3 _ => ?_)
  refine ⟨.inl rfl, ?_⟩
  have hs3 : SlR (eInt .i64) w3 (fl [[b_k_0], M]) (some ⟨b3, 0, none⟩) 7 ([0, 0, 1, 2, 3, 6, 12]) := ro_of_box hms hq3 hb3 rfl rfl (vals_at (Value.int .i64) rfl (fun _ _ _ => rfl) _ _ _)
  clear hb3
  have hst := Stp.ext (ls := [[b_k_0], M]) he3
  replace hs_k_0_l := hs_k_0_l.step hst
  replace hb_k_0 := he3.box hb_k_0 (fun h => by cases h)
  replace hms := hms.ev he3
  replace hev := hev.ext he3
  obtain ⟨x5, hx, h⟩ := bind_some h
  have hpk := hms.pick [some 0, some 1] [[b_k_0], M] rfl
  have hsb : ∀ x ∈ fl [[b_k_0], (fl [M])], x ∈ fl [[b_k_0], M] := fun x hx => pick_sub [some 0, some 1] [[b_k_0], M] rfl x (focus_sub (ls := [[b_k_0], M]) 0 rfl x hx)
  have hcall := gen_Maker_Pick_w b_k_0 a_k_0_l c_k_0_l k_0_l k_0_n (some ⟨b3, 0, none⟩) 7 ([0, 0, 1, 2, 3, 6, 12]) _ w3 (fl [M]) (hpk.focus 0 rfl) (hs_k_0_l.sub hsb) hb_k_0 (hs3.sub hsb) hx
  refine x_call 20 #[] #[] [.pointer (some ⟨b_k_0, 0, none⟩), .slice (some ⟨b3, 0, none⟩) ([0, 0, 1, 2, 3, 6, 12]).length 7] _ rfl rfl rfl rfl hcall ?_
  rintro v w6 ⟨rfl, he6, hbn6⟩
  clear hcall hx
  refine ⟨.inl rfl, ?_⟩
  have hst := Stp.ev' (ls := [[b_k_0], M]) he6 (mem_flat 0 rfl)
  replace hs_k_0_l := hs_k_0_l.step hst
  replace hs3 := hs3.step hst
  replace hms := hms.ev he6
  replace hev := hev.then he6 (fun b hb => .inl (by simpa using hb))
  replace hb_k_0 := hbn6
  refine x_pure 1 [(7, .pointer (some ⟨b_k_0, 0, none⟩))] _ _ _ (by kernel_rfl) ?_
  refine x_buildSlice (vs := [(0, .int .i64 0), (1, .int .i64 1), (2, .int .i64 2), (3, .int .i64 3), (4, .int .i64 5), (5, .int .i64 12)]) #[.int .i64 0, .int .i64 1, .int .i64 2, .int .i64 3, .int .i64 5, .int .i64 12] 3 rfl rfl rfl (by kernel_rfl) (fun b7 w7 hq7 hb7 he7 _ => ?_)
  refine ⟨.inl rfl, ?_⟩
  have hs7 : SlR (eInt .i64) w7 (fl [[b_k_0], M]) (some ⟨b7, 0, none⟩) 6 ([0, 1, 2, 3, 5, 12]) := ro_of_box hms hq7 hb7 rfl rfl (vals_at (Value.int .i64) rfl (fun _ _ _ => rfl) _ _ _)
  clear hb7
  have hst := Stp.ext (ls := [[b_k_0], M]) he7
  replace hs_k_0_l := hs_k_0_l.step hst
  replace hb_k_0 := he7.box hb_k_0 (fun h => by cases h)
  replace hs3 := hs3.step hst
  replace hms := hms.ev he7
  replace hev := hev.ext he7
  obtain ⟨x9, hx, h⟩ := bind_some h
  have hpk := hms.pick [some 0, some 1] [[b_k_0], M] rfl
  have hsb : ∀ x ∈ fl [[b_k_0], (fl [M])], x ∈ fl [[b_k_0], M] := fun x hx => pick_sub [some 0, some 1] [[b_k_0], M] rfl x (focus_sub (ls := [[b_k_0], M]) 0 rfl x hx)
  have hcall := gen_Maker_Pick_w b_k_0 a_k_0_l c_k_0_l k_0_l x5.2 (some ⟨b7, 0, none⟩) 6 ([0, 1, 2, 3, 5, 12]) _ w7 (fl [M]) (hpk.focus 0 rfl) (hs_k_0_l.sub hsb) hb_k_0 (hs7.sub hsb) hx
  refine x_call 20 #[] #[] [.pointer (some ⟨b_k_0, 0, none⟩), .slice (some ⟨b7, 0, none⟩) ([0, 1, 2, 3, 5, 12]).length 6] _ rfl rfl rfl rfl hcall ?_
  rintro v w10 ⟨rfl, he10, hbn10⟩
  clear hcall hx
  refine ⟨.inl rfl, ?_⟩
  have hst := Stp.ev' (ls := [[b_k_0], M]) he10 (mem_flat 0 rfl)
  replace hs_k_0_l := hs_k_0_l.step hst
  replace hs3 := hs3.step hst
  replace hs7 := hs7.step hst
  replace hms := hms.ev he10
  replace hev := hev.then he10 (fun b hb => .inl (by simpa using hb))
  replace hb_k_0 := hbn10
  refine x_pure 2 [(2, .int .i64 x5.1), (3, .int .i64 x9.1)] _ _ _ (by kernel_rfl) ?_
  refine x_end rfl ?_
  refine k_then ?_
  refine c_norm [(2, .int .i64 x5.1), (3, .int .i64 x9.1)] ⟨rfl, rfl, trivial⟩ (fun J => ?_)
  refine c_ret ?_
  refine r_ret (r_two (.int .i64 x5.1) (.int .i64 x9.1) rfl rfl ?_)
  have hx := some_inj h
  subst hx
  have hsu : ∀ x ∈ fl [[b_k_0], M], x ∈ fl [[b_k_0], M] := fl_right (loc := []) (par := [[b_k_0], M])
  exact ⟨rfl, hev, hb_k_0⟩
def law12_sane : Option Bool :=
((code_Next 3 0 1).bind fun x1 =>
((code_Next 4 2 12).bind fun x3 =>
((code_Count 3 0 2).bind fun x5 =>
((code_Next 4 2 0).bind fun x7 =>
(if (x1.2 == 0) = true then
(if (x1.1 == 4) = true then
(if (x3.2 == 0) = true then
(if (x3.1 == 7) = true then
(if (x5.2 == 0) = true then
(if (x5.1 == 7) = true then
some (x7.2 == 15)
else
some false)
else
some false)
else
some false)
else
some false)
else
some false)
else
some false)))))

theorem law12_sane_w (r : Bool) (w : World) (h : law12_sane = some r) : CallVC Try.prog 14 [] w fun v w' => v = .bool r ∧ Ev [] w w' := by
  refine calls_vc hmx Try.func14 (by kernel_rfl) rfl (rs := [.tmp 0]) rfl (by kernel_rfl) (args := []) rfl ?_
  have hev : Ev [] w w := Ev.refl _ _
  have hms : MS w [[]] := ⟨List.pairwise_singleton _ _, fun l hl b hb => by simp only [List.mem_singleton] at hl; subst hl; cases hb⟩
  have hfr : FR w.heap.size [] := FR.nil _
  refine c_seq ?_
  refine c_plain ?_
  refine x_pure 1 [(0, .bool false)] _ _ _ (by kernel_rfl) ?_
  refine x_end rfl ?_
  refine k_then ?_
  refine c_norm [] trivial (fun J => ?_)
  refine c_seq ?_
  refine c_plain ?_
  obtain ⟨x1, hx, h⟩ := bind_some h
  have hcall := code_Next_w 3 0 1 _ w hx
  refine x_call 12 #[] #[] [.int .i64 3, .int .i64 0, .int .i64 1] _ rfl rfl rfl rfl hcall ?_
  rintro v w2 ⟨rfl, he2⟩
  clear hcall hx
  refine ⟨.inl rfl, ?_⟩
  replace hms := hms.ev he2
  replace hev := hev.ext he2
  refine x_pure 5 [(9, .tuple #[.int .i64 x1.1, .int .i64 x1.2]), (11, .int .i64 x1.1), (12, .int .i64 x1.2), (1, .int .i64 x1.1), (2, .int .i64 x1.2)] _ _ _ (by kernel_rfl) ?_
  refine x_end rfl ?_
  refine k_then ?_
  refine c_norm [(1, .int .i64 x1.1), (2, .int .i64 x1.2)] ⟨rfl, rfl, trivial⟩ (fun J => ?_)
  refine c_seq ?_
  refine c_plain ?_
  obtain ⟨x3, hx, h⟩ := bind_some h
  have hcall := code_Next_w 4 2 12 _ w2 hx
  refine x_call 12 #[] #[] [.int .i64 4, .int .i64 2, .int .i64 12] _ rfl rfl rfl rfl hcall ?_
  rintro v w4 ⟨rfl, he4⟩
  clear hcall hx
  refine ⟨.inl rfl, ?_⟩
  replace hms := hms.ev he4
  replace hev := hev.ext he4
  refine x_pure 5 [(13, .tuple #[.int .i64 x3.1, .int .i64 x3.2]), (15, .int .i64 x3.1), (16, .int .i64 x3.2), (3, .int .i64 x3.1), (4, .int .i64 x3.2)] _ _ _ (by kernel_rfl) ?_
  refine x_end rfl ?_
  refine k_then ?_
  refine c_norm [(1, .int .i64 x1.1), (2, .int .i64 x1.2), (3, .int .i64 x3.1), (4, .int .i64 x3.2)] ⟨rfl, rfl, rfl, rfl, trivial⟩ (fun J => ?_)
  refine c_seq ?_
  refine c_plain ?_
  obtain ⟨x5, hx, h⟩ := bind_some h
  have hcall := code_Count_w 3 0 2 _ w4 hx
  refine x_call 16 #[] #[] [.int .i64 3, .int .i64 0, .int .i64 2] _ rfl rfl rfl rfl hcall ?_
  rintro v w6 ⟨rfl, he6⟩
  clear hcall hx
  refine ⟨.inl rfl, ?_⟩
  replace hms := hms.ev he6
  replace hev := hev.ext he6
  refine x_pure 5 [(17, .tuple #[.int .i64 x5.1, .int .i64 x5.2]), (19, .int .i64 x5.1), (20, .int .i64 x5.2), (5, .int .i64 x5.1), (6, .int .i64 x5.2)] _ _ _ (by kernel_rfl) ?_
  refine x_end rfl ?_
  refine k_then ?_
  refine c_norm [(1, .int .i64 x1.1), (2, .int .i64 x1.2), (3, .int .i64 x3.1), (4, .int .i64 x3.2), (5, .int .i64 x5.1), (6, .int .i64 x5.2)] ⟨rfl, rfl, rfl, rfl, rfl, rfl, trivial⟩ (fun J => ?_)
  refine c_seq ?_
  refine c_plain ?_
  obtain ⟨x7, hx, h⟩ := bind_some h
  have hcall := code_Next_w 4 2 0 _ w6 hx
  refine x_call 12 #[] #[] [.int .i64 4, .int .i64 2, .int .i64 0] _ rfl rfl rfl rfl hcall ?_
  rintro v w8 ⟨rfl, he8⟩
  clear hcall hx
  refine ⟨.inl rfl, ?_⟩
  replace hms := hms.ev he8
  replace hev := hev.ext he8
  refine x_pure 5 [(21, .tuple #[.int .i64 x7.1, .int .i64 x7.2]), (23, .int .i64 x7.1), (24, .int .i64 x7.2), (7, .int .i64 x7.1), (8, .int .i64 x7.2)] _ _ _ (by kernel_rfl) ?_
  refine x_end rfl ?_
  refine k_then ?_
  refine c_norm [(1, .int .i64 x1.1), (2, .int .i64 x1.2), (3, .int .i64 x3.1), (4, .int .i64 x3.2), (5, .int .i64 x5.1), (6, .int .i64 x5.2), (8, .int .i64 x7.2)] ⟨rfl, rfl, rfl, rfl, rfl, rfl, rfl, trivial⟩ (fun J => ?_)
  refine c_seq ?_
  refine c_plain ?_
  refine x_pure 3 [(25, .int .i64 x1.2), (26, .bool (x1.2 == 0)), (27, .bool (x1.2 == 0))] _ _ _ (by kernel_rfl) ?_
  refine x_split 27 (x1.2 == 0) rfl (fun hb => ?_) (fun hb => ?_)
  · replace h := ite_t hb h
    refine x_pure 4 [(28, .int .i64 x1.1), (29, .bool (x1.1 == 4)), (30, .bool (x1.1 == 4)), (31, .bool (x1.1 == 4))] _ _ _ (by kernel_rfl) ?_
    refine x_split 31 (x1.1 == 4) rfl (fun hb => ?_) (fun hb => ?_)
    · replace h := ite_t hb h
      refine x_pure 4 [(32, .int .i64 x3.2), (33, .bool (x3.2 == 0)), (34, .bool (x3.2 == 0)), (35, .bool (x3.2 == 0))] _ _ _ (by kernel_rfl) ?_
      refine x_split 35 (x3.2 == 0) rfl (fun hb => ?_) (fun hb => ?_)
      · replace h := ite_t hb h
        refine x_pure 4 [(36, .int .i64 x3.1), (37, .bool (x3.1 == 7)), (38, .bool (x3.1 == 7)), (39, .bool (x3.1 == 7))] _ _ _ (by kernel_rfl) ?_
        refine x_split 39 (x3.1 == 7) rfl (fun hb => ?_) (fun hb => ?_)
        · replace h := ite_t hb h
          refine x_pure 4 [(40, .int .i64 x5.2), (41, .bool (x5.2 == 0)), (42, .bool (x5.2 == 0)), (43, .bool (x5.2 == 0))] _ _ _ (by kernel_rfl) ?_
          refine x_split 43 (x5.2 == 0) rfl (fun hb => ?_) (fun hb => ?_)
          · replace h := ite_t hb h
            refine x_pure 4 [(44, .int .i64 x5.1), (45, .bool (x5.1 == 7)), (46, .bool (x5.1 == 7)), (47, .bool (x5.1 == 7))] _ _ _ (by kernel_rfl) ?_
            refine x_split 47 (x5.1 == 7) rfl (fun hb => ?_) (fun hb => ?_)
            · replace h := ite_t hb h
              refine x_pure 4 [(48, .int .i64 x7.2), (49, .bool (x7.2 == 15)), (50, .bool (x7.2 == 15)), (0, .bool (x7.2 == 15))] _ _ _ (by kernel_rfl) ?_
              refine x_end rfl ?_
              refine k_then ?_
              refine c_norm [(0, .bool (x7.2 == 15))] ⟨rfl, trivial⟩ (fun J => ?_)
              refine c_ret ?_
              refine r_ret (r_one (.bool (x7.2 == 15)) rfl ?_)
              have hx := some_inj h
              subst hx
              exact ⟨rfl, hev⟩
            · replace h := ite_f hb h
              refine x_pure 4 [(48, undef), (49, undef), (50, .bool false), (0, .bool false)] _ _ _ (by kernel_rfl) ?_
              refine x_end rfl ?_
              refine k_then ?_
              refine c_norm [(0, .bool false)] ⟨rfl, trivial⟩ (fun J => ?_)
              refine c_ret ?_
              refine r_ret (r_one (.bool false) rfl ?_)
              have hx := some_inj h
              subst hx
              exact ⟨rfl, hev⟩
          · replace h := ite_f hb h
            refine x_pure 8 [(44, undef), (45, undef), (46, .bool false), (47, .bool false), (48, undef), (49, undef), (50, .bool false), (0, .bool false)] _ _ _ (by kernel_rfl) ?_
            refine x_end rfl ?_
            refine k_then ?_
            refine c_norm [(0, .bool false)] ⟨rfl, trivial⟩ (fun J => ?_)
            refine c_ret ?_
            refine r_ret (r_one (.bool false) rfl ?_)
            have hx := some_inj h
            subst hx
            exact ⟨rfl, hev⟩
        · replace h := ite_f hb h
          refine x_pure 12 [(40, undef), (41, undef), (42, .bool false), (43, .bool false), (44, undef), (45, undef), (46, .bool false), (47, .bool false), (48, undef), (49, undef), (50, .bool false), (0, .bool false)] _ _ _ (by kernel_rfl) ?_
          refine x_end rfl ?_
          refine k_then ?_
          refine c_norm [(0, .bool false)] ⟨rfl, trivial⟩ (fun J => ?_)
          refine c_ret ?_
          refine r_ret (r_one (.bool false) rfl ?_)
          have hx := some_inj h
          subst hx
          exact ⟨rfl, hev⟩
      · replace h := ite_f hb h
        refine x_pure 16 [(36, undef), (37, undef), (38, .bool false), (39, .bool false), (40, undef), (41, undef), (42, .bool false), (43, .bool false), (44, undef), (45, undef), (46, .bool false), (47, .bool false), (48, undef), (49, undef), (50, .bool false), (0, .bool false)] _ _ _ (by kernel_rfl) ?_
        refine x_end rfl ?_
        refine k_then ?_
        refine c_norm [(0, .bool false)] ⟨rfl, trivial⟩ (fun J => ?_)
        refine c_ret ?_
        refine r_ret (r_one (.bool false) rfl ?_)
        have hx := some_inj h
        subst hx
        exact ⟨rfl, hev⟩
    · replace h := ite_f hb h
      refine x_pure 20 [(32, undef), (33, undef), (34, .bool false), (35, .bool false), (36, undef), (37, undef), (38, .bool false), (39, .bool false), (40, undef), (41, undef), (42, .bool false), (43, .bool false), (44, undef), (45, undef), (46, .bool false), (47, .bool false), (48, undef), (49, undef), (50, .bool false), (0, .bool false)] _ _ _ (by kernel_rfl) ?_
      refine x_end rfl ?_
      refine k_then ?_
      refine c_norm [(0, .bool false)] ⟨rfl, trivial⟩ (fun J => ?_)
      refine c_ret ?_
      refine r_ret (r_one (.bool false) rfl ?_)
      have hx := some_inj h
      subst hx
      exact ⟨rfl, hev⟩
  · replace h := ite_f hb h
    refine x_pure 24 [(28, undef), (29, undef), (30, .bool false), (31, .bool false), (32, undef), (33, undef), (34, .bool false), (35, .bool false), (36, undef), (37, undef), (38, .bool false), (39, .bool false), (40, undef), (41, undef), (42, .bool false), (43, .bool false), (44, undef), (45, undef), (46, .bool false), (47, .bool false), (48, undef), (49, undef), (50, .bool false), (0, .bool false)] _ _ _ (by kernel_rfl) ?_
    refine x_end rfl ?_
    refine k_then ?_
    refine c_norm [(0, .bool false)] ⟨rfl, trivial⟩ (fun J => ?_)
    refine c_ret ?_
    refine r_ret (r_one (.bool false) rfl ?_)
    have hx := some_inj h
    subst hx
    exact ⟨rfl, hev⟩
def law12_exact (n_0 : Int) (round_1 : Int) (weight_2 : Int) : Option Bool :=
((code_Next n_0 round_1 weight_2).bind fun x1 =>
((r12_Next n_0 round_1 weight_2).bind fun x3 =>
((code_Is n_0 round_1 weight_2).bind fun x5 =>
((r12_Is n_0 round_1 weight_2).bind fun x7 =>
(if (x5 != x7) = true then
some false
else
(if (x1.1 != x3.1) = true then
some false
else
(if (x1.2 != x3.2) = true then
some false
else
((code_Count n_0 round_1 weight_2).bind fun x9 =>
((r12_Count n_0 round_1 weight_2).bind fun x11 =>
((code_Nth n_0 round_1 weight_2).bind fun x13 =>
((r12_Nth n_0 round_1 weight_2).bind fun x15 =>
(if (x9.1 != x11.1) = true then
some false
else
(if (x9.2 != x11.2) = true then
some false
else
(if (x13.1 != x15.1) = true then
some false
else
(if (x13.2 != x15.2) = true then
some false
else
((code_Rank n_0 round_1 weight_2).bind fun x17 =>
((r12_Rank n_0 round_1 weight_2).bind fun x19 =>
((code_Steps n_0).bind fun x21 =>
((r12_Steps n_0).bind fun x23 =>
((code_Real n_0 round_1).bind fun x25 =>
((r12_Real n_0 round_1).bind fun x28 =>
(if (x17.1 == x19.1) = true then
(if (x17.2 == x19.2) = true then
(if (x21.1 == x23.1) = true then
(if (x21.2 == x23.2) = true then
((gen_Ints x25.1 x28.1).bind fun x31 =>
(if x31 = true then
some (x25.2 == x28.2)
else
some false))
else
some false)
else
some false)
else
some false)
else
some false))))))))))))))))))))))

theorem law12_exact_w (n_0 : Int) (round_1 : Int) (weight_2 : Int) (r : Bool) (w : World) (h : law12_exact n_0 round_1 weight_2 = some r) : CallVC Try.prog 21 [.int .i64 n_0, .int .i64 round_1, .int .i64 weight_2] w fun v w' => v = .bool r ∧ Ev [] w w' := by
  refine calls_vc hmx Try.func21 (by kernel_rfl) rfl (rs := [.tmp 6]) rfl (by kernel_rfl) (args := [.int .i64 n_0, .int .i64 round_1, .int .i64 weight_2]) rfl ?_
  have hev : Ev [] w w := Ev.refl _ _
  have hms : MS w [[]] := ⟨List.pairwise_singleton _ _, fun l hl b hb => by simp only [List.mem_singleton] at hl; subst hl; cases hb⟩
  have hfr : FR w.heap.size [] := FR.nil _
  refine c_seq ?_
  refine c_plain ?_
  refine x_pure 1 [(6, .bool false)] _ _ _ (by kernel_rfl) ?_
  refine x_end rfl ?_
  refine k_then ?_
  refine c_norm [(0, .int .i64 n_0), (1, .int .i64 round_1), (2, .int .i64 weight_2)] ⟨rfl, rfl, rfl, trivial⟩ (fun J => ?_)
  refine c_seq ?_
  refine c_plain ?_
  refine x_pure 3 [(20, .int .i64 n_0), (21, .int .i64 round_1), (22, .int .i64 weight_2)] _ _ _ (by kernel_rfl) ?_
  obtain ⟨x1, hx, h⟩ := bind_some h
  have hcall := code_Next_w n_0 round_1 weight_2 _ w hx
  refine x_call 12 #[] #[] [.int .i64 n_0, .int .i64 round_1, .int .i64 weight_2] _ rfl rfl rfl rfl hcall ?_
  rintro v w2 ⟨rfl, he2⟩
  clear hcall hx
  refine ⟨.inl rfl, ?_⟩
  replace hms := hms.ev he2
  replace hev := hev.ext he2
  refine x_pure 5 [(19, .tuple #[.int .i64 x1.1, .int .i64 x1.2]), (24, .int .i64 x1.1), (25, .int .i64 x1.2), (7, .int .i64 x1.1), (8, .int .i64 x1.2)] _ _ _ (by kernel_rfl) ?_
  refine x_end rfl ?_
  refine k_then ?_
  refine c_norm [(0, .int .i64 n_0), (1, .int .i64 round_1), (2, .int .i64 weight_2), (7, .int .i64 x1.1), (8, .int .i64 x1.2)] ⟨rfl, rfl, rfl, rfl, rfl, trivial⟩ (fun J => ?_)
  refine c_seq ?_
  refine c_plain ?_
  refine x_pure 3 [(27, .int .i64 n_0), (28, .int .i64 round_1), (29, .int .i64 weight_2)] _ _ _ (by kernel_rfl) ?_
  obtain ⟨x3, hx, h⟩ := bind_some h
  have hcall := r12_Next_w n_0 round_1 weight_2 _ w2 hx
  refine x_call 27 #[] #[] [.int .i64 n_0, .int .i64 round_1, .int .i64 weight_2] _ rfl rfl rfl rfl hcall ?_
  rintro v w4 ⟨rfl, he4⟩
  clear hcall hx
  refine ⟨.inl rfl, ?_⟩
  replace hms := hms.ev he4
  replace hev := hev.ext he4
  refine x_pure 5 [(26, .tuple #[.int .i64 x3.1, .int .i64 x3.2]), (31, .int .i64 x3.1), (32, .int .i64 x3.2), (9, .int .i64 x3.1), (10, .int .i64 x3.2)] _ _ _ (by kernel_rfl) ?_
  refine x_end rfl ?_
  refine k_then ?_
  refine c_norm [(0, .int .i64 n_0), (1, .int .i64 round_1), (2, .int .i64 weight_2), (7, .int .i64 x1.1), (8, .int .i64 x1.2), (9, .int .i64 x3.1), (10, .int .i64 x3.2)] ⟨rfl, rfl, rfl, rfl, rfl, rfl, rfl, trivial⟩ (fun J => ?_)
  refine c_seq ?_
  refine c_seq ?_
  refine c_plain ?_
  refine x_pure 3 [(33, .int .i64 n_0), (34, .int .i64 round_1), (35, .int .i64 weight_2)] _ _ _ (by kernel_rfl) ?_
  obtain ⟨x5, hx, h⟩ := bind_some h
  have hcall := code_Is_w n_0 round_1 weight_2 _ w4 hx
  refine x_call 13 #[] #[] [.int .i64 n_0, .int .i64 round_1, .int .i64 weight_2] _ rfl rfl rfl rfl hcall ?_
  rintro v w6 ⟨rfl, he6⟩
  clear hcall hx
  refine ⟨.inl rfl, ?_⟩
  replace hms := hms.ev he6
  replace hev := hev.ext he6
  refine x_pure 3 [(37, .int .i64 n_0), (38, .int .i64 round_1), (39, .int .i64 weight_2)] _ _ _ (by kernel_rfl) ?_
  obtain ⟨x7, hx, h⟩ := bind_some h
  have hcall := r12_Is_w n_0 round_1 weight_2 _ w6 hx
  refine x_call 28 #[] #[] [.int .i64 n_0, .int .i64 round_1, .int .i64 weight_2] _ rfl rfl rfl rfl hcall ?_
  rintro v w8 ⟨rfl, he8⟩
  clear hcall hx
  refine ⟨.inl rfl, ?_⟩
  replace hms := hms.ev he8
  replace hev := hev.ext he8
  refine x_binop (.bool (x5 != x7)) (.bool x5) (.bool x7) rfl rfl rfl rfl (vb_boolneq tbool4) ?_
  refine x_pure 1 [(42, .bool (x5 != x7))] _ _ _ (by kernel_rfl) ?_
  refine x_split 42 (x5 != x7) rfl (fun hb => ?_) (fun hb => ?_)
  · replace h := ite_t hb h
    refine x_pure 9 [(43, undef), (44, undef), (45, undef), (46, .bool true), (47, .bool true), (48, undef), (49, undef), (50, undef), (51, .bool true)] _ _ _ (by kernel_rfl) ?_
    refine x_end rfl ?_
    refine k_then ?_
    refine c_norm [(0, .int .i64 n_0), (1, .int .i64 round_1), (2, .int .i64 weight_2), (51, .bool true)] ⟨rfl, rfl, rfl, rfl, trivial⟩ (fun J => ?_)
    refine c_true rfl ?_
    refine c_seq ?_
    refine c_plain ?_
    refine x_pure 1 [(6, .bool false)] _ _ _ (by kernel_rfl) ?_
    refine x_end rfl ?_
    refine k_then ?_
    refine c_norm [(6, .bool false)] ⟨rfl, trivial⟩ (fun J => ?_)
    refine c_ret ?_
    refine k_then_ret ?_
    refine r_ret (r_one (.bool false) rfl ?_)
    have hx := some_inj h
    subst hx
    exact ⟨rfl, hev⟩
  · replace h := ite_f hb h
    refine x_pure 5 [(43, .int .i64 x1.1), (44, .int .i64 x3.1), (45, .bool (x1.1 != x3.1)), (46, .bool (x1.1 != x3.1)), (47, .bool (x1.1 != x3.1))] _ _ _ (by kernel_rfl) ?_
    refine x_split 47 (x1.1 != x3.1) rfl (fun hb => ?_) (fun hb => ?_)
    · replace h := ite_t hb h
      refine x_pure 4 [(48, undef), (49, undef), (50, undef), (51, .bool true)] _ _ _ (by kernel_rfl) ?_
      refine x_end rfl ?_
      refine k_then ?_
      refine c_norm [(0, .int .i64 n_0), (1, .int .i64 round_1), (2, .int .i64 weight_2), (51, .bool true)] ⟨rfl, rfl, rfl, rfl, trivial⟩ (fun J => ?_)
      refine c_true rfl ?_
      refine c_seq ?_
      refine c_plain ?_
      refine x_pure 1 [(6, .bool false)] _ _ _ (by kernel_rfl) ?_
      refine x_end rfl ?_
      refine k_then ?_
      refine c_norm [(6, .bool false)] ⟨rfl, trivial⟩ (fun J => ?_)
      refine c_ret ?_
      refine k_then_ret ?_
      refine r_ret (r_one (.bool false) rfl ?_)
      have hx := some_inj h
      subst hx
      exact ⟨rfl, hev⟩
    · replace h := ite_f hb h
      refine x_pure 4 [(48, .int .i64 x1.2), (49, .int .i64 x3.2), (50, .bool (x1.2 != x3.2)), (51, .bool (x1.2 != x3.2))] _ _ _ (by kernel_rfl) ?_
      refine x_end rfl ?_
      refine k_then ?_
      refine c_norm [(0, .int .i64 n_0), (1, .int .i64 round_1), (2, .int .i64 weight_2), (51, .bool (x1.2 != x3.2))] ⟨rfl, rfl, rfl, rfl, trivial⟩ (fun J => ?_)
      refine c_cond (x1.2 != x3.2) rfl (fun hb => ?_) (fun hb => ?_)
      · replace h := ite_t hb h
        refine c_seq ?_
        refine c_plain ?_
        refine x_pure 1 [(6, .bool false)] _ _ _ (by kernel_rfl) ?_
        refine x_end rfl ?_
        refine k_then ?_
        refine c_norm [(6, .bool false)] ⟨rfl, trivial⟩ (fun J => ?_)
        refine c_ret ?_
        refine k_then_ret ?_
        refine r_ret (r_one (.bool false) rfl ?_)
        have hx := some_inj h
        subst hx
        exact ⟨rfl, hev⟩
      · replace h := ite_f hb h
        refine c_skip ?_
        refine k_then ?_
        refine c_norm [(0, .int .i64 n_0), (1, .int .i64 round_1), (2, .int .i64 weight_2)] ⟨rfl, rfl, rfl, trivial⟩ (fun J => ?_)
        refine c_seq ?_
        refine c_plain ?_
        refine x_pure 3 [(53, .int .i64 n_0), (54, .int .i64 round_1), (55, .int .i64 weight_2)] _ _ _ (by kernel_rfl) ?_
        obtain ⟨x9, hx, h⟩ := bind_some h
        have hcall := code_Count_w n_0 round_1 weight_2 _ w8 hx
        refine x_call 16 #[] #[] [.int .i64 n_0, .int .i64 round_1, .int .i64 weight_2] _ rfl rfl rfl rfl hcall ?_
        rintro v w10 ⟨rfl, he10⟩
        clear hcall hx
        refine ⟨.inl rfl, ?_⟩
        replace hms := hms.ev he10
        replace hev := hev.ext he10
        refine x_pure 5 [(52, .tuple #[.int .i64 x9.1, .int .i64 x9.2]), (57, .int .i64 x9.1), (58, .int .i64 x9.2), (7, .int .i64 x9.1), (8, .int .i64 x9.2)] _ _ _ (by kernel_rfl) ?_
        refine x_end rfl ?_
        refine k_then ?_
        refine c_norm [(0, .int .i64 n_0), (1, .int .i64 round_1), (2, .int .i64 weight_2), (7, .int .i64 x9.1), (8, .int .i64 x9.2)] ⟨rfl, rfl, rfl, rfl, rfl, trivial⟩ (fun J => ?_)
        refine c_seq ?_
        refine c_plain ?_
        refine x_pure 3 [(60, .int .i64 n_0), (61, .int .i64 round_1), (62, .int .i64 weight_2)] _ _ _ (by kernel_rfl) ?_
        obtain ⟨x11, hx, h⟩ := bind_some h
        have hcall := r12_Count_w n_0 round_1 weight_2 _ w10 hx
        refine x_call 29 #[] #[] [.int .i64 n_0, .int .i64 round_1, .int .i64 weight_2] _ rfl rfl rfl rfl hcall ?_
        rintro v w12 ⟨rfl, he12⟩
        clear hcall hx
        refine ⟨.inl rfl, ?_⟩
        replace hms := hms.ev he12
        replace hev := hev.ext he12
        refine x_pure 5 [(59, .tuple #[.int .i64 x11.1, .int .i64 x11.2]), (64, .int .i64 x11.1), (65, .int .i64 x11.2), (9, .int .i64 x11.1), (10, .int .i64 x11.2)] _ _ _ (by kernel_rfl) ?_
        refine x_end rfl ?_
        refine k_then ?_
        refine c_norm [(0, .int .i64 n_0), (1, .int .i64 round_1), (2, .int .i64 weight_2), (7, .int .i64 x9.1), (8, .int .i64 x9.2), (9, .int .i64 x11.1), (10, .int .i64 x11.2)] ⟨rfl, rfl, rfl, rfl, rfl, rfl, rfl, trivial⟩ (fun J => ?_)
        refine c_seq ?_
        refine c_plain ?_
        refine x_pure 3 [(67, .int .i64 n_0), (68, .int .i64 round_1), (69, .int .i64 weight_2)] _ _ _ (by kernel_rfl) ?_
        obtain ⟨x13, hx, h⟩ := bind_some h
        have hcall := code_Nth_w n_0 round_1 weight_2 _ w12 hx
        refine x_call 15 #[] #[] [.int .i64 n_0, .int .i64 round_1, .int .i64 weight_2] _ rfl rfl rfl rfl hcall ?_
        rintro v w14 ⟨rfl, he14⟩
        clear hcall hx
        refine ⟨.inl rfl, ?_⟩
        replace hms := hms.ev he14
        replace hev := hev.ext he14
        refine x_pure 5 [(66, .tuple #[.int .i64 x13.1, .int .i64 x13.2]), (71, .int .i64 x13.1), (72, .int .i64 x13.2), (11, .int .i64 x13.1), (12, .int .i64 x13.2)] _ _ _ (by kernel_rfl) ?_
        refine x_end rfl ?_
        refine k_then ?_
        refine c_norm [(0, .int .i64 n_0), (1, .int .i64 round_1), (2, .int .i64 weight_2), (7, .int .i64 x9.1), (8, .int .i64 x9.2), (9, .int .i64 x11.1), (10, .int .i64 x11.2), (11, .int .i64 x13.1), (12, .int .i64 x13.2)] ⟨rfl, rfl, rfl, rfl, rfl, rfl, rfl, rfl, rfl, trivial⟩ (fun J => ?_)
        refine c_seq ?_
        refine c_plain ?_
        refine x_pure 3 [(74, .int .i64 n_0), (75, .int .i64 round_1), (76, .int .i64 weight_2)] _ _ _ (by kernel_rfl) ?_
        obtain ⟨x15, hx, h⟩ := bind_some h
        have hcall := r12_Nth_w n_0 round_1 weight_2 _ w14 hx
        refine x_call 30 #[] #[] [.int .i64 n_0, .int .i64 round_1, .int .i64 weight_2] _ rfl rfl rfl rfl hcall ?_
        rintro v w16 ⟨rfl, he16⟩
        clear hcall hx
        refine ⟨.inl rfl, ?_⟩
        replace hms := hms.ev he16
        replace hev := hev.ext he16
        refine x_pure 5 [(73, .tuple #[.int .i64 x15.1, .int .i64 x15.2]), (78, .int .i64 x15.1), (79, .int .i64 x15.2), (13, .int .i64 x15.1), (14, .int .i64 x15.2)] _ _ _ (by kernel_rfl) ?_
        refine x_end rfl ?_
        refine k_then ?_
        refine c_norm [(0, .int .i64 n_0), (1, .int .i64 round_1), (2, .int .i64 weight_2), (7, .int .i64 x9.1), (8, .int .i64 x9.2), (9, .int .i64 x11.1), (10, .int .i64 x11.2), (11, .int .i64 x13.1), (12, .int .i64 x13.2), (13, .int .i64 x15.1), (14, .int .i64 x15.2)] ⟨rfl, rfl, rfl, rfl, rfl, rfl, rfl, rfl, rfl, rfl, rfl, trivial⟩ (fun J => ?_)
        refine c_seq ?_
        refine c_seq ?_
        refine c_plain ?_
        refine x_pure 4 [(80, .int .i64 x9.1), (81, .int .i64 x11.1), (82, .bool (x9.1 != x11.1)), (83, .bool (x9.1 != x11.1))] _ _ _ (by kernel_rfl) ?_
        refine x_split 83 (x9.1 != x11.1) rfl (fun hb => ?_) (fun hb => ?_)
        · replace h := ite_t hb h
          refine x_pure 14 [(84, undef), (85, undef), (86, undef), (87, .bool true), (88, .bool true), (89, undef), (90, undef), (91, undef), (92, .bool true), (93, .bool true), (94, undef), (95, undef), (96, undef), (97, .bool true)] _ _ _ (by kernel_rfl) ?_
          refine x_end rfl ?_
          refine k_then ?_
          refine c_norm [(0, .int .i64 n_0), (1, .int .i64 round_1), (2, .int .i64 weight_2), (97, .bool true)] ⟨rfl, rfl, rfl, rfl, trivial⟩ (fun J => ?_)
          refine c_true rfl ?_
          refine c_seq ?_
          refine c_plain ?_
          refine x_pure 1 [(6, .bool false)] _ _ _ (by kernel_rfl) ?_
          refine x_end rfl ?_
          refine k_then ?_
          refine c_norm [(6, .bool false)] ⟨rfl, trivial⟩ (fun J => ?_)
          refine c_ret ?_
          refine k_then_ret ?_
          refine r_ret (r_one (.bool false) rfl ?_)
          have hx := some_inj h
          subst hx
          exact ⟨rfl, hev⟩
        · replace h := ite_f hb h
          refine x_pure 5 [(84, .int .i64 x9.2), (85, .int .i64 x11.2), (86, .bool (x9.2 != x11.2)), (87, .bool (x9.2 != x11.2)), (88, .bool (x9.2 != x11.2))] _ _ _ (by kernel_rfl) ?_
          refine x_split 88 (x9.2 != x11.2) rfl (fun hb => ?_) (fun hb => ?_)
          · replace h := ite_t hb h
            refine x_pure 9 [(89, undef), (90, undef), (91, undef), (92, .bool true), (93, .bool true), (94, undef), (95, undef), (96, undef), (97, .bool true)] _ _ _ (by kernel_rfl) ?_
            refine x_end rfl ?_
            refine k_then ?_
            refine c_norm [(0, .int .i64 n_0), (1, .int .i64 round_1), (2, .int .i64 weight_2), (97, .bool true)] ⟨rfl, rfl, rfl, rfl, trivial⟩ (fun J => ?_)
            refine c_true rfl ?_
            refine c_seq ?_
            refine c_plain ?_
            refine x_pure 1 [(6, .bool false)] _ _ _ (by kernel_rfl) ?_
            refine x_end rfl ?_
            refine k_then ?_
            refine c_norm [(6, .bool false)] ⟨rfl, trivial⟩ (fun J => ?_)
            refine c_ret ?_
            refine k_then_ret ?_
            refine r_ret (r_one (.bool false) rfl ?_)
            have hx := some_inj h
            subst hx
            exact ⟨rfl, hev⟩
          · replace h := ite_f hb h
            refine x_pure 5 [(89, .int .i64 x13.1), (90, .int .i64 x15.1), (91, .bool (x13.1 != x15.1)), (92, .bool (x13.1 != x15.1)), (93, .bool (x13.1 != x15.1))] _ _ _ (by kernel_rfl) ?_
            refine x_split 93 (x13.1 != x15.1) rfl (fun hb => ?_) (fun hb => ?_)
            · replace h := ite_t hb h
              refine x_pure 4 [(94, undef), (95, undef), (96, undef), (97, .bool true)] _ _ _ (by kernel_rfl) ?_
              refine x_end rfl ?_
              refine k_then ?_
              refine c_norm [(0, .int .i64 n_0), (1, .int .i64 round_1), (2, .int .i64 weight_2), (97, .bool true)] ⟨rfl, rfl, rfl, rfl, trivial⟩ (fun J => ?_)
              refine c_true rfl ?_
              refine c_seq ?_
              refine c_plain ?_
              refine x_pure 1 [(6, .bool false)] _ _ _ (by kernel_rfl) ?_
              refine x_end rfl ?_
              refine k_then ?_
              refine c_norm [(6, .bool false)] ⟨rfl, trivial⟩ (fun J => ?_)
              refine c_ret ?_
              refine k_then_ret ?_
              refine r_ret (r_one (.bool false) rfl ?_)
              have hx := some_inj h
              subst hx
              exact ⟨rfl, hev⟩
            · replace h := ite_f hb h
              refine x_pure 4 [(94, .int .i64 x13.2), (95, .int .i64 x15.2), (96, .bool (x13.2 != x15.2)), (97, .bool (x13.2 != x15.2))] _ _ _ (by kernel_rfl) ?_
              refine x_end rfl ?_
              refine k_then ?_
              refine c_norm [(0, .int .i64 n_0), (1, .int .i64 round_1), (2, .int .i64 weight_2), (97, .bool (x13.2 != x15.2))] ⟨rfl, rfl, rfl, rfl, trivial⟩ (fun J => ?_)
              refine c_cond (x13.2 != x15.2) rfl (fun hb => ?_) (fun hb => ?_)
              · replace h := ite_t hb h
                refine c_seq ?_
                refine c_plain ?_
                refine x_pure 1 [(6, .bool false)] _ _ _ (by kernel_rfl) ?_
                refine x_end rfl ?_
                refine k_then ?_
                refine c_norm [(6, .bool false)] ⟨rfl, trivial⟩ (fun J => ?_)
                refine c_ret ?_
                refine k_then_ret ?_
                refine r_ret (r_one (.bool false) rfl ?_)
                have hx := some_inj h
                subst hx
                exact ⟨rfl, hev⟩
              · replace h := ite_f hb h
                refine c_skip ?_
                refine k_then ?_
                refine c_norm [(0, .int .i64 n_0), (1, .int .i64 round_1), (2, .int .i64 weight_2)] ⟨rfl, rfl, rfl, trivial⟩ (fun J => ?_)
                refine c_seq ?_
                refine c_plain ?_
                refine x_pure 3 [(99, .int .i64 n_0), (100, .int .i64 round_1), (101, .int .i64 weight_2)] _ _ _ (by kernel_rfl) ?_
                obtain ⟨x17, hx, h⟩ := bind_some h
                have hcall := code_Rank_w n_0 round_1 weight_2 _ w16 hx
                refine x_call 17 #[] #[] [.int .i64 n_0, .int .i64 round_1, .int .i64 weight_2] _ rfl rfl rfl rfl hcall ?_
                rintro v w18 ⟨rfl, he18⟩
                clear hcall hx
                refine ⟨.inl rfl, ?_⟩
                replace hms := hms.ev he18
                replace hev := hev.ext he18
                refine x_pure 5 [(98, .tuple #[.int .i64 x17.1, .int .i64 x17.2]), (103, .int .i64 x17.1), (104, .int .i64 x17.2), (7, .int .i64 x17.1), (8, .int .i64 x17.2)] _ _ _ (by kernel_rfl) ?_
                refine x_end rfl ?_
                refine k_then ?_
                refine c_norm [(0, .int .i64 n_0), (1, .int .i64 round_1), (2, .int .i64 weight_2), (7, .int .i64 x17.1), (8, .int .i64 x17.2)] ⟨rfl, rfl, rfl, rfl, rfl, trivial⟩ (fun J => ?_)
                refine c_seq ?_
                refine c_plain ?_
                refine x_pure 3 [(106, .int .i64 n_0), (107, .int .i64 round_1), (108, .int .i64 weight_2)] _ _ _ (by kernel_rfl) ?_
                obtain ⟨x19, hx, h⟩ := bind_some h
                have hcall := r12_Rank_w n_0 round_1 weight_2 _ w18 hx
                refine x_call 31 #[] #[] [.int .i64 n_0, .int .i64 round_1, .int .i64 weight_2] _ rfl rfl rfl rfl hcall ?_
                rintro v w20 ⟨rfl, he20⟩
                clear hcall hx
                refine ⟨.inl rfl, ?_⟩
                replace hms := hms.ev he20
                replace hev := hev.ext he20
                refine x_pure 5 [(105, .tuple #[.int .i64 x19.1, .int .i64 x19.2]), (110, .int .i64 x19.1), (111, .int .i64 x19.2), (9, .int .i64 x19.1), (10, .int .i64 x19.2)] _ _ _ (by kernel_rfl) ?_
                refine x_end rfl ?_
                refine k_then ?_
                refine c_norm [(0, .int .i64 n_0), (1, .int .i64 round_1), (7, .int .i64 x17.1), (8, .int .i64 x17.2), (9, .int .i64 x19.1), (10, .int .i64 x19.2)] ⟨rfl, rfl, rfl, rfl, rfl, rfl, trivial⟩ (fun J => ?_)
                refine c_seq ?_
                refine c_plain ?_
                refine x_pure 1 [(113, .int .i64 n_0)] _ _ _ (by kernel_rfl) ?_
                obtain ⟨x21, hx, h⟩ := bind_some h
                have hcall := code_Steps_w n_0 _ w20 hx
                refine x_call 19 #[] #[] [.int .i64 n_0] _ rfl rfl rfl rfl hcall ?_
                rintro v w22 ⟨rfl, he22⟩
                clear hcall hx
                refine ⟨.inl rfl, ?_⟩
                replace hms := hms.ev he22
                replace hev := hev.ext he22
                refine x_pure 5 [(112, .tuple #[.int .i64 x21.1, .int .i64 x21.2]), (115, .int .i64 x21.1), (116, .int .i64 x21.2), (11, .int .i64 x21.1), (12, .int .i64 x21.2)] _ _ _ (by kernel_rfl) ?_
                refine x_end rfl ?_
                refine k_then ?_
                refine c_norm [(0, .int .i64 n_0), (1, .int .i64 round_1), (7, .int .i64 x17.1), (8, .int .i64 x17.2), (9, .int .i64 x19.1), (10, .int .i64 x19.2), (11, .int .i64 x21.1), (12, .int .i64 x21.2)] ⟨rfl, rfl, rfl, rfl, rfl, rfl, rfl, rfl, trivial⟩ (fun J => ?_)
                refine c_seq ?_
                refine c_plain ?_
                refine x_pure 1 [(118, .int .i64 n_0)] _ _ _ (by kernel_rfl) ?_
                obtain ⟨x23, hx, h⟩ := bind_some h
                have hcall := r12_Steps_w n_0 _ w22 hx
                refine x_call 32 #[] #[] [.int .i64 n_0] _ rfl rfl rfl rfl hcall ?_
                rintro v w24 ⟨rfl, he24⟩
                clear hcall hx
                refine ⟨.inl rfl, ?_⟩
                replace hms := hms.ev he24
                replace hev := hev.ext he24
                refine x_pure 5 [(117, .tuple #[.int .i64 x23.1, .int .i64 x23.2]), (120, .int .i64 x23.1), (121, .int .i64 x23.2), (13, .int .i64 x23.1), (14, .int .i64 x23.2)] _ _ _ (by kernel_rfl) ?_
                refine x_end rfl ?_
                refine k_then ?_
                refine c_norm [(0, .int .i64 n_0), (1, .int .i64 round_1), (7, .int .i64 x17.1), (8, .int .i64 x17.2), (9, .int .i64 x19.1), (10, .int .i64 x19.2), (11, .int .i64 x21.1), (12, .int .i64 x21.2), (13, .int .i64 x23.1), (14, .int .i64 x23.2)] ⟨rfl, rfl, rfl, rfl, rfl, rfl, rfl, rfl, rfl, rfl, trivial⟩ (fun J => ?_)
                refine c_seq ?_
                refine c_plain ?_
                refine x_pure 2 [(123, .int .i64 n_0), (124, .int .i64 round_1)] _ _ _ (by kernel_rfl) ?_
                obtain ⟨x25, hx, h⟩ := bind_some h
                have hpk := hms.pick [some 0] [[]] rfl
                have hsb : ∀ x ∈ fl [(fl [[]])], x ∈ fl [[]] := fun x hx => pick_sub [some 0] [[]] rfl x hx
                have hcall := code_Real_w n_0 round_1 _ w24 (fl [[]]) (hpk.all)  hx
                refine x_call 18 #[] #[] [.int .i64 n_0, .int .i64 round_1] _ rfl rfl rfl rfl hcall ?_
                rintro v w26 ⟨a0_26, c0_26, rfl, he26, hmn26, hfn26, hf26_1⟩
                clear hcall hx
                refine ⟨.inl rfl, ?_⟩
                have hst : Stp (fl [[]]) w24 (fl [blk a0_26, []]) w26 := Stp.join (res := [blk a0_26]) he26 (fun _ h => by cases h) hfn26
                replace hms : MS w26 [blk a0_26, []] := hms.join he26 hmn26 hfn26
                replace hfr : FR w.heap.size [blk a0_26] := hfr.join hfn26 hev.size
                replace hev := hev.ext he26
                have hsp : ∀ x ∈ fl [blk a0_26, []], x ∈ fl [blk a0_26, (fl [[]])] := fl_app [blk a0_26] (fun x hx => pick_sup [some 0] [[]] rfl rfl x hx)
                replace hf26_1 := hf26_1.sub hsp
                refine x_pure 5 [(122, .tuple #[.slice a0_26 (x25.1).length c0_26, .int .i64 x25.2]), (126, .slice a0_26 (x25.1).length c0_26), (127, .int .i64 x25.2), (15, .slice a0_26 (x25.1).length c0_26), (16, .int .i64 x25.2)] _ _ _ (by kernel_rfl) ?_
                refine x_end rfl ?_
                refine k_then ?_
                refine c_norm [(0, .int .i64 n_0), (1, .int .i64 round_1), (7, .int .i64 x17.1), (8, .int .i64 x17.2), (9, .int .i64 x19.1), (10, .int .i64 x19.2), (11, .int .i64 x21.1), (12, .int .i64 x21.2), (13, .int .i64 x23.1), (14, .int .i64 x23.2), (15, .slice a0_26 (x25.1).length c0_26), (16, .int .i64 x25.2)] ⟨rfl, rfl, rfl, rfl, rfl, rfl, rfl, rfl, rfl, rfl, rfl, rfl, trivial⟩ (fun J => ?_)
                refine c_seq ?_
                refine c_plain ?_
                refine x_pure 2 [(129, .int .i64 n_0), (130, .int .i64 round_1)] _ _ _ (by kernel_rfl) ?_
                obtain ⟨x28, hx, h⟩ := bind_some h
                have hpk := hms.pick [some 0, some 1] [blk a0_26, []] rfl
                have hsb : ∀ x ∈ fl [(fl [blk a0_26, []])], x ∈ fl [blk a0_26, []] := fun x hx => pick_sub [some 0, some 1] [blk a0_26, []] rfl x hx
                have hcall := r12_Real_w n_0 round_1 _ w26 (fl [blk a0_26, []]) (hpk.all)  hx
                refine x_call 33 #[] #[] [.int .i64 n_0, .int .i64 round_1] _ rfl rfl rfl rfl hcall ?_
                rintro v w29 ⟨a0_29, c0_29, rfl, he29, hmn29, hfn29, hf29_1⟩
                clear hcall hx
                refine ⟨.inl rfl, ?_⟩
                have hst : Stp (fl [blk a0_26, []]) w26 (fl [blk a0_29, blk a0_26, []]) w29 := Stp.join (res := [blk a0_29]) he29 (fun _ h => by cases h) hfn29
                replace hf26_1 := hf26_1.step hst he29 (fun _ _ h => by cases h)
                replace hms : MS w29 [blk a0_29, blk a0_26, []] := hms.join he29 hmn29 hfn29
                replace hfr : FR w.heap.size [blk a0_29, blk a0_26] := hfr.join hfn29 hev.size
                replace hev := hev.ext he29
                have hsp : ∀ x ∈ fl [blk a0_29, blk a0_26, []], x ∈ fl [blk a0_29, (fl [blk a0_26, []])] := fl_app [blk a0_29] (fun x hx => pick_sup [some 0, some 1] [blk a0_26, []] rfl rfl x hx)
                replace hf29_1 := hf29_1.sub hsp
                refine x_pure 5 [(128, .tuple #[.slice a0_29 (x28.1).length c0_29, .int .i64 x28.2]), (132, .slice a0_29 (x28.1).length c0_29), (133, .int .i64 x28.2), (17, .slice a0_29 (x28.1).length c0_29), (18, .int .i64 x28.2)] _ _ _ (by kernel_rfl) ?_
                refine x_end rfl ?_
                refine k_then ?_
                refine c_norm [(7, .int .i64 x17.1), (8, .int .i64 x17.2), (9, .int .i64 x19.1), (10, .int .i64 x19.2), (11, .int .i64 x21.1), (12, .int .i64 x21.2), (13, .int .i64 x23.1), (14, .int .i64 x23.2), (15, .slice a0_26 (x25.1).length c0_26), (16, .int .i64 x25.2), (17, .slice a0_29 (x28.1).length c0_29), (18, .int .i64 x28.2)] ⟨rfl, rfl, rfl, rfl, rfl, rfl, rfl, rfl, rfl, rfl, rfl, rfl, trivial⟩ (fun J => ?_)
                refine c_seq ?_
                refine c_plain ?_
                refine x_pure 4 [(134, .int .i64 x17.1), (135, .int .i64 x19.1), (136, .bool (x17.1 == x19.1)), (137, .bool (x17.1 == x19.1))] _ _ _ (by kernel_rfl) ?_
                refine x_split 137 (x17.1 == x19.1) rfl (fun hb => ?_) (fun hb => ?_)
                · replace h := ite_t hb h
                  refine x_pure 5 [(138, .int .i64 x17.2), (139, .int .i64 x19.2), (140, .bool (x17.2 == x19.2)), (141, .bool (x17.2 == x19.2)), (142, .bool (x17.2 == x19.2))] _ _ _ (by kernel_rfl) ?_
                  refine x_split 142 (x17.2 == x19.2) rfl (fun hb => ?_) (fun hb => ?_)
                  · replace h := ite_t hb h
                    refine x_pure 5 [(143, .int .i64 x21.1), (144, .int .i64 x23.1), (145, .bool (x21.1 == x23.1)), (146, .bool (x21.1 == x23.1)), (147, .bool (x21.1 == x23.1))] _ _ _ (by kernel_rfl) ?_
                    refine x_split 147 (x21.1 == x23.1) rfl (fun hb => ?_) (fun hb => ?_)
                    · replace h := ite_t hb h
                      refine x_pure 5 [(148, .int .i64 x21.2), (149, .int .i64 x23.2), (150, .bool (x21.2 == x23.2)), (151, .bool (x21.2 == x23.2)), (152, .bool (x21.2 == x23.2))] _ _ _ (by kernel_rfl) ?_
                      refine x_split 152 (x21.2 == x23.2) rfl (fun hb => ?_) (fun hb => ?_)
                      · replace h := ite_t hb h
                        refine x_pure 2 [(153, .slice a0_26 (x25.1).length c0_26), (154, .slice a0_29 (x28.1).length c0_29)] _ _ _ (by kernel_rfl) ?_
                        obtain ⟨x31, hx, h⟩ := bind_some h
                        have hpk := hms.pick [some 2] [[]] rfl
                        have hsb : ∀ x ∈ fl [(fl [[]])], x ∈ fl [blk a0_29, blk a0_26, []] := fun x hx => pick_sub [some 2] [[]] rfl x hx
                        have hcall := gen_Ints_w a0_26 c0_26 x25.1 a0_29 c0_29 x28.1 _ w29 (fl [[]]) (hpk.all) (hf26_1.ro hsb (fun b hb hb2 => pick_out hms 1 rfl [some 2] [[]] rfl rfl b hb hb2)) (hf29_1.ro hsb (fun b hb hb2 => pick_out hms 0 rfl [some 2] [[]] rfl rfl b hb hb2)) hx
                        refine x_call 34 #[] #[] [.slice a0_26 (x25.1).length c0_26, .slice a0_29 (x28.1).length c0_29] _ rfl rfl rfl rfl hcall ?_
                        rintro v w32 ⟨rfl, he32⟩
                        clear hcall hx
                        refine ⟨.inl rfl, ?_⟩
                        have hst := Stp.ext (ls := [blk a0_29, blk a0_26, []]) he32
                        replace hf26_1 := hf26_1.step hst he32 (fun _ _ h => by cases h)
                        replace hf29_1 := hf29_1.step hst he32 (fun _ _ h => by cases h)
                        replace hms := hms.ev he32
                        replace hev := hev.ext he32
                        refine x_pure 2 [(156, .bool x31), (157, .bool x31)] _ _ _ (by kernel_rfl) ?_
                        refine x_split 157 x31 rfl (fun hb => ?_) (fun hb => ?_)
                        · replace h := ite_t hb h
                          refine x_pure 5 [(158, .int .i64 x25.2), (159, .int .i64 x28.2), (160, .bool (x25.2 == x28.2)), (161, .bool (x25.2 == x28.2)), (6, .bool (x25.2 == x28.2))] _ _ _ (by kernel_rfl) ?_
                          refine x_end rfl ?_
                          refine k_then ?_
                          refine c_norm [(6, .bool (x25.2 == x28.2))] ⟨rfl, trivial⟩ (fun J => ?_)
                          refine c_ret ?_
                          refine r_ret (r_one (.bool (x25.2 == x28.2)) rfl ?_)
                          have hx := some_inj h
                          subst hx
                          exact ⟨rfl, hev⟩
                        · replace h := ite_f hb h
                          refine x_pure 5 [(158, undef), (159, undef), (160, undef), (161, .bool false), (6, .bool false)] _ _ _ (by kernel_rfl) ?_
                          refine x_end rfl ?_
                          refine k_then ?_
                          refine c_norm [(6, .bool false)] ⟨rfl, trivial⟩ (fun J => ?_)
                          refine c_ret ?_
                          refine r_ret (r_one (.bool false) rfl ?_)
                          have hx := some_inj h
                          subst hx
                          exact ⟨rfl, hev⟩
                      · replace h := ite_f hb h
                        refine x_pure 10 [(153, undef), (154, undef), (155, undef), (156, .bool false), (157, .bool false), (158, undef), (159, undef), (160, undef), (161, .bool false), (6, .bool false)] _ _ _ (by kernel_rfl) ?_
                        refine x_end rfl ?_
                        refine k_then ?_
                        refine c_norm [(6, .bool false)] ⟨rfl, trivial⟩ (fun J => ?_)
                        refine c_ret ?_
                        refine r_ret (r_one (.bool false) rfl ?_)
                        have hx := some_inj h
                        subst hx
                        exact ⟨rfl, hev⟩
                    · replace h := ite_f hb h
                      refine x_pure 15 [(148, undef), (149, undef), (150, undef), (151, .bool false), (152, .bool false), (153, undef), (154, undef), (155, undef), (156, .bool false), (157, .bool false), (158, undef), (159, undef), (160, undef), (161, .bool false), (6, .bool false)] _ _ _ (by kernel_rfl) ?_
                      refine x_end rfl ?_
                      refine k_then ?_
                      refine c_norm [(6, .bool false)] ⟨rfl, trivial⟩ (fun J => ?_)
                      refine c_ret ?_
                      refine r_ret (r_one (.bool false) rfl ?_)
                      have hx := some_inj h
                      subst hx
                      exact ⟨rfl, hev⟩
                  · replace h := ite_f hb h
                    refine x_pure 20 [(143, undef), (144, undef), (145, undef), (146, .bool false), (147, .bool false), (148, undef), (149, undef), (150, undef), (151, .bool false), (152, .bool false), (153, undef), (154, undef), (155, undef), (156, .bool false), (157, .bool false), (158, undef), (159, undef), (160, undef), (161, .bool false), (6, .bool false)] _ _ _ (by kernel_rfl) ?_
                    refine x_end rfl ?_
                    refine k_then ?_
                    refine c_norm [(6, .bool false)] ⟨rfl, trivial⟩ (fun J => ?_)
                    refine c_ret ?_
                    refine r_ret (r_one (.bool false) rfl ?_)
                    have hx := some_inj h
                    subst hx
                    exact ⟨rfl, hev⟩
                · replace h := ite_f hb h
                  refine x_pure 25 [(138, undef), (139, undef), (140, undef), (141, .bool false), (142, .bool false), (143, undef), (144, undef), (145, undef), (146, .bool false), (147, .bool false), (148, undef), (149, undef), (150, undef), (151, .bool false), (152, .bool false), (153, undef), (154, undef), (155, undef), (156, .bool false), (157, .bool false), (158, undef), (159, undef), (160, undef), (161, .bool false), (6, .bool false)] _ _ _ (by kernel_rfl) ?_
                  refine x_end rfl ?_
                  refine k_then ?_
                  refine c_norm [(6, .bool false)] ⟨rfl, trivial⟩ (fun J => ?_)
                  refine c_ret ?_
                  refine r_ret (r_one (.bool false) rfl ?_)
                  have hx := some_inj h
                  subst hx
                  exact ⟨rfl, hev⟩
end Go.Proofs.Ytjcikgeffhghkaa
