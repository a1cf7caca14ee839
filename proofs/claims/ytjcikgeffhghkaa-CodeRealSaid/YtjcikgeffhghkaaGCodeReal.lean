/- Walks, printed by program: each function returns what the partial function of the same name returns. Conditions: those of each theorem. -/
import Derived.Test.YtjcikgeffhghkaaGT
import Derived.Test.YtjcikgeffhghkaaGcode
import Derived.Test.YtjcikgeffhghkaaGgen
import Derived.Test.YtjcikgeffhghkaaGlaw12
set_option linter.unusedVariables false
set_option maxRecDepth 4000
namespace Go.Proofs.Ytjcikgeffhghkaa
open Go Go.V Go.Proofs
def law12_CodeReal_L19 (x6 : Int × Int × Int) (x14 : (List Int) × Int) (s : Int × Int × (List Int)) : Option (Step (Int × Int × (List Int)) ((Bool × (List Int)) ⊕ (Int × (List Int)))) :=
match s with
| (n_s12, t53__s53, d16g19) =>
(if (decide (t53__s53 < ((x14.1).length : Int))) = true then
((idx d16g19 t53__s53).bind fun x20 =>
(if (decide (x20 < x6.1)) = true then
some (.done (.inl (false, d16g19)))
else
(if (decide (x20 ≥ 12)) = true then
some (.done (.inl (false, d16g19)))
else
(if (decide (t53__s53 > 0)) = true then
((idx d16g19 (IntKind.i64.wrap (t53__s53 - 1))).bind fun x22 =>
(if (decide (x20 ≤ x22)) = true then
some (.done (.inl (false, d16g19)))
else
(if 0 ≤ x20 then
some (.next (IntKind.i64.wrap (n_s12 + (IntKind.i64.wrap (1 * 2 ^ (min (Int.toNat (x20)) IntKind.i64.bits)))), IntKind.i64.wrap (t53__s53 + 1), d16g19))
else none)))
else
(if 0 ≤ x20 then
some (.next (IntKind.i64.wrap (n_s12 + (IntKind.i64.wrap (1 * 2 ^ (min (Int.toNat (x20)) IntKind.i64.bits)))), IntKind.i64.wrap (t53__s53 + 1), d16g19))
else none)))))
else
some (.done (.inr (n_s12, d16g19))))

def law12_CodeReal (v_t_0 : List Int) : Option Bool :=
((gen_New v_t_0).bind fun x2 =>
((law12_form x2.1 x2.2).bind fun x6 =>
((gen_Maker_Next x2.1 x6.2.2 4000).bind fun x8 =>
((code_Next x8.1 x6.1 x6.2.1).bind fun x10 =>
(if (x10.2 != 0) = true then
(if (x10.2 == 15) = true then
((law12_sane).bind fun x12 =>
some x12)
else
some false)
else
((code_Real x10.1 x6.1).bind fun x14 =>
((code_Steps x10.1).bind fun x17 =>
(if 0 ≤ x6.1 then
((loop (law12_CodeReal_L19 x6 x14) (IntKind.i64.wrap ((IntKind.i64.wrap (1 * 2 ^ (min (Int.toNat (x6.1)) IntKind.i64.bits))) - 1), 0, x14.1)).bind fun d => match d with
| (.inl (t2__x2, d16x)) => some t2__x2
| (.inr (n_x12, d16x)) => (if (x14.2 == 0) = true then
(if (x17.2 == 0) = true then
(if (n_x12 == x10.1) = true then
(if (decide (((d16x).length : Int) ≤ x6.2.1)) = true then
(if (x10.1 == 0) = true then
(if (x17.1 == 0) = true then
((law12_sane).bind fun x24 =>
some x24)
else
(if (decide (x10.1 > 0)) = true then
(if 0 ≤ IntKind.i64.wrap (x17.1 - 1) then
(if ((Int.fdiv x10.1 (2 ^ (min (Int.toNat ((IntKind.i64.wrap (x17.1 - 1)))) IntKind.i64.bits))) == 1) = true then
((law12_sane).bind fun x26 =>
some x26)
else
some false)
else none)
else
some false))
else
(if (decide (x10.1 > 0)) = true then
(if 0 ≤ IntKind.i64.wrap (x17.1 - 1) then
(if ((Int.fdiv x10.1 (2 ^ (min (Int.toNat ((IntKind.i64.wrap (x17.1 - 1)))) IntKind.i64.bits))) == 1) = true then
((law12_sane).bind fun x28 =>
some x28)
else
some false)
else none)
else
some false))
else
some false)
else
some false)
else
some false)
else
some false))
else none))))))))

theorem law12_CodeReal_w (a_v_t_0 : Option Addr) (c_v_t_0 : Nat) (v_t_0 : List Int) (r : Bool) (w : World) (M : List Nat) (hms : MS w [M]) (hs_v_t_0 : SlR (eInt .i64) w (fl [M]) a_v_t_0 c_v_t_0 v_t_0) (h : law12_CodeReal v_t_0 = some r) : CallVC Try.prog 6 [.slice a_v_t_0 (v_t_0).length c_v_t_0] w fun v w' => v = .bool r ∧ Ev [] w w' := by
  refine calls_vc hmx Try.func6 (by kernel_rfl) rfl (rs := [.tmp 2]) rfl (by kernel_rfl) (args := [.slice a_v_t_0 (v_t_0).length c_v_t_0]) rfl ?_
  have hev : Ev [] w w := Ev.refl _ _
  have hfr : FR w.heap.size [] := FR.nil _
  refine c_seq ?_
  refine c_plain ?_
  refine x_pure 1 [(2, .bool false)] _ _ _ (by kernel_rfl) ?_
  refine x_end rfl ?_
  refine k_then ?_
  refine c_norm [(0, .slice a_v_t_0 (v_t_0).length c_v_t_0)] ⟨rfl, trivial⟩ (fun J => ?_)
  refine c_seq ?_
  refine c_plain ?_
  refine x_pure 1 [(15, .slice a_v_t_0 (v_t_0).length c_v_t_0)] _ _ _ (by kernel_rfl) ?_
  obtain ⟨x2, hx, h⟩ := bind_some h
  have hpk := hms.pick [some 0] [M] rfl
  have hsb : ∀ x ∈ fl [(fl [M])], x ∈ fl [M] := fun x hx => pick_sub [some 0] [M] rfl x hx
  have hcall := gen_New_w a_v_t_0 c_v_t_0 v_t_0 _ w (fl [M]) (hpk.all) (hs_v_t_0.sub hsb) hx
  refine x_call 9 #[] #[] [.slice a_v_t_0 (v_t_0).length c_v_t_0] _ rfl rfl rfl rfl hcall ?_
  rintro v w3 ⟨b0_3, a1_3, c1_3, rfl, he3, hmn3, hfn3, hf3_1, hf3_2⟩
  clear hcall hx
  refine ⟨.inl rfl, ?_⟩
  have hst : Stp (fl [M]) w (fl [[b0_3], M]) w3 := Stp.join (res := [[b0_3]]) he3 (fun _ h => by cases h) hfn3
  replace hs_v_t_0 := hs_v_t_0.step hst
  replace hms : MS w3 [[b0_3], M] := hms.join he3 hmn3 hfn3
  replace hfr : FR w.heap.size [[b0_3]] := hfr.join hfn3 hev.size
  replace hev := hev.ext he3
  have hsp : ∀ x ∈ fl [[b0_3], M], x ∈ fl [[b0_3], (fl [M])] := fl_app [[b0_3]] (fun x hx => pick_sup [some 0] [M] rfl rfl x hx)
  replace hf3_2 := hf3_2.sub hsp
  refine x_pure 1 [(3, .pointer (some ⟨b0_3, 0, none⟩))] _ _ _ (by kernel_rfl) ?_
  refine x_end rfl ?_
  refine k_then ?_
  refine c_norm [(3, .pointer (some ⟨b0_3, 0, none⟩))] ⟨rfl, trivial⟩ (fun J => ?_)
  refine c_seq ?_
  refine c_plain ?_
  refine x_pure 1 [(18, .pointer (some ⟨b0_3, 0, none⟩))] _ _ _ (by kernel_rfl) ?_
  obtain ⟨x6, hx, h⟩ := bind_some h
  have hpk := hms.pick [some 0, some 1] [[b0_3], M] rfl
  have hsb : ∀ x ∈ fl [[b0_3], (fl [M])], x ∈ fl [[b0_3], M] := fun x hx => pick_sub [some 0, some 1] [[b0_3], M] rfl x (focus_sub (ls := [[b0_3], M]) 0 rfl x hx)
  have hcall := law12_form_w b0_3 a1_3 c1_3 x2.1 x2.2 _ w3 (fl [M]) (hpk.focus 0 rfl) (hf3_2.sub hsb) hf3_1 hx
  refine x_call 10 #[] #[] [.pointer (some ⟨b0_3, 0, none⟩)] _ rfl rfl rfl rfl hcall ?_
  rintro v w7 ⟨rfl, he7, hbn7⟩
  clear hcall hx
  refine ⟨.inl rfl, ?_⟩
  have hst := Stp.ev' (ls := [[b0_3], M]) he7 (mem_flat 0 rfl)
  replace hf3_2 := hf3_2.step hst
  replace hms := hms.ev he7
  replace hev := hev.then he7 (fun b hb => .inr (hfr.at 0 rfl b hb))
  replace hf3_1 := hbn7
  refine x_pure 5 [(17, .tuple #[.int .i64 x6.1, .int .i64 x6.2.1]), (20, .int .i64 x6.1), (21, .int .i64 x6.2.1), (4, .int .i64 x6.1), (5, .int .i64 x6.2.1)] _ _ _ (by kernel_rfl) ?_
  refine x_end rfl ?_
  refine k_then ?_
  refine c_norm [(3, .pointer (some ⟨b0_3, 0, none⟩)), (4, .int .i64 x6.1), (5, .int .i64 x6.2.1)] ⟨rfl, rfl, rfl, trivial⟩ (fun J => ?_)
  refine c_seq ?_
  refine c_plain ?_
  refine x_pure 1 [(23, .pointer (some ⟨b0_3, 0, none⟩))] _ _ _ (by kernel_rfl) ?_
  obtain ⟨x8, hx, h⟩ := bind_some h
  have hpk := hms.pick [some 0, some 1] [[b0_3], M] rfl
  have hsb : ∀ x ∈ fl [[b0_3], (fl [M])], x ∈ fl [[b0_3], M] := fun x hx => pick_sub [some 0, some 1] [[b0_3], M] rfl x (focus_sub (ls := [[b0_3], M]) 0 rfl x hx)
  have hcall := gen_Maker_Next_w b0_3 a1_3 c1_3 x2.1 x6.2.2 4000 _ w7 (fl [M]) (hpk.focus 0 rfl) (hf3_2.sub hsb) hf3_1 hx
  refine x_call 11 #[] #[] [.pointer (some ⟨b0_3, 0, none⟩), .int .i64 4000] _ rfl rfl rfl rfl hcall ?_
  rintro v w9 ⟨rfl, he9, hbn9⟩
  clear hcall hx
  refine ⟨.inl rfl, ?_⟩
  have hst := Stp.ev' (ls := [[b0_3], M]) he9 (mem_flat 0 rfl)
  replace hf3_2 := hf3_2.step hst
  replace hms := hms.ev he9
  replace hev := hev.then he9 (fun b hb => .inr (hfr.at 0 rfl b hb))
  replace hf3_1 := hbn9
  refine x_pure 2 [(25, .int .i64 x6.1), (26, .int .i64 x6.2.1)] _ _ _ (by kernel_rfl) ?_
  obtain ⟨x10, hx, h⟩ := bind_some h
  have hcall := code_Next_w x8.1 x6.1 x6.2.1 _ w9 hx
  refine x_call 12 #[] #[] [.int .i64 x8.1, .int .i64 x6.1, .int .i64 x6.2.1] _ rfl rfl rfl rfl hcall ?_
  rintro v w11 ⟨rfl, he11⟩
  clear hcall hx
  refine ⟨.inl rfl, ?_⟩
  have hst := Stp.ext (ls := [[b0_3], M]) he11
  replace hf3_1 := he11.box hf3_1 (fun h => by cases h)
  replace hf3_2 := hf3_2.step hst
  replace hms := hms.ev he11
  replace hev := hev.ext he11
  refine x_pure 5 [(22, .tuple #[.int .i64 x10.1, .int .i64 x10.2]), (28, .int .i64 x10.1), (29, .int .i64 x10.2), (6, .int .i64 x10.1), (7, .int .i64 x10.2)] _ _ _ (by kernel_rfl) ?_
  refine x_end rfl ?_
  refine k_then ?_
  refine c_norm [(4, .int .i64 x6.1), (5, .int .i64 x6.2.1), (6, .int .i64 x10.1), (7, .int .i64 x10.2)] ⟨rfl, rfl, rfl, rfl, trivial⟩ (fun J => ?_)
  refine c_seq ?_
  refine c_seq ?_
  refine c_plain ?_
  refine x_pure 2 [(30, .int .i64 x10.2), (31, .bool (x10.2 != 0))] _ _ _ (by kernel_rfl) ?_
  refine x_end rfl ?_
  refine k_then ?_
  refine c_norm [(4, .int .i64 x6.1), (5, .int .i64 x6.2.1), (6, .int .i64 x10.1), (7, .int .i64 x10.2), (31, .bool (x10.2 != 0))] ⟨rfl, rfl, rfl, rfl, rfl, trivial⟩ (fun J => ?_)
  refine c_cond (x10.2 != 0) rfl (fun hb => ?_) (fun hb => ?_)
  · replace h := ite_t hb h
    refine c_seq ?_
    refine c_plain ?_
    refine x_pure 3 [(32, .int .i64 x10.2), (33, .bool (x10.2 == 15)), (34, .bool (x10.2 == 15))] _ _ _ (by kernel_rfl) ?_
    refine x_split 34 (x10.2 == 15) rfl (fun hb => ?_) (fun hb => ?_)
    · replace h := ite_t hb h
      obtain ⟨x12, hx, h⟩ := bind_some h
      have hcall := law12_sane_w _ w11 hx
      refine x_call 14 #[] #[] [] _ rfl rfl rfl rfl hcall ?_
      rintro v w13 ⟨rfl, he13⟩
      clear hcall hx
      refine ⟨.inl rfl, ?_⟩
      have hst := Stp.ext (ls := [[b0_3], M]) he13
      replace hf3_1 := he13.box hf3_1 (fun h => by cases h)
      replace hf3_2 := hf3_2.step hst
      replace hms := hms.ev he13
      replace hev := hev.ext he13
      refine x_pure 2 [(36, .bool x12), (2, .bool x12)] _ _ _ (by kernel_rfl) ?_
      refine x_end rfl ?_
      refine k_then ?_
      refine c_norm [(2, .bool x12)] ⟨rfl, trivial⟩ (fun J => ?_)
      refine c_ret ?_
      refine k_then_ret ?_
      refine r_ret (r_one (.bool x12) rfl ?_)
      have hx := some_inj h
      subst hx
      have hsu : ∀ x ∈ fl [M], x ∈ fl [[b0_3], M] := fl_right (loc := [[b0_3]]) (par := [M])
      exact ⟨rfl, hev⟩
    · replace h := ite_f hb h
      refine x_pure 3 [(35, undef), (36, .bool false), (2, .bool false)] _ _ _ (by kernel_rfl) ?_
      refine x_end rfl ?_
      refine k_then ?_
      refine c_norm [(2, .bool false)] ⟨rfl, trivial⟩ (fun J => ?_)
      refine c_ret ?_
      refine k_then_ret ?_
      refine r_ret (r_one (.bool false) rfl ?_)
      have hx := some_inj h
      subst hx
      have hsu : ∀ x ∈ fl [M], x ∈ fl [[b0_3], M] := fl_right (loc := [[b0_3]]) (par := [M])
      exact ⟨rfl, hev⟩
  · replace h := ite_f hb h
    refine c_skip ?_
    refine k_then ?_
    refine c_norm [(4, .int .i64 x6.1), (5, .int .i64 x6.2.1), (6, .int .i64 x10.1)] ⟨rfl, rfl, rfl, trivial⟩ (fun J => ?_)
    refine c_seq ?_
    refine c_plain ?_
    refine x_pure 2 [(38, .int .i64 x10.1), (39, .int .i64 x6.1)] _ _ _ (by kernel_rfl) ?_
    obtain ⟨x14, hx, h⟩ := bind_some h
    have hpk := hms.pick [some 0, some 1] [[b0_3], M] rfl
    have hsb : ∀ x ∈ fl [(fl [[b0_3], M])], x ∈ fl [[b0_3], M] := fun x hx => pick_sub [some 0, some 1] [[b0_3], M] rfl x hx
    have hcall := code_Real_w x10.1 x6.1 _ w11 (fl [[b0_3], M]) (hpk.all)  hx
    refine x_call 18 #[] #[] [.int .i64 x10.1, .int .i64 x6.1] _ rfl rfl rfl rfl hcall ?_
    rintro v w15 ⟨a0_15, c0_15, rfl, he15, hmn15, hfn15, hf15_1⟩
    clear hcall hx
    refine ⟨.inl rfl, ?_⟩
    have hst : Stp (fl [[b0_3], M]) w11 (fl [blk a0_15, [b0_3], M]) w15 := Stp.join (res := [blk a0_15]) he15 (fun _ h => by cases h) hfn15
    replace hf3_1 := he15.box hf3_1 (fun h => by cases h)
    replace hf3_2 := hf3_2.step hst
    replace hms : MS w15 [blk a0_15, [b0_3], M] := hms.join he15 hmn15 hfn15
    replace hfr : FR w.heap.size [blk a0_15, [b0_3]] := hfr.join hfn15 hev.size
    replace hev := hev.ext he15
    have hsp : ∀ x ∈ fl [blk a0_15, [b0_3], M], x ∈ fl [blk a0_15, (fl [[b0_3], M])] := fl_app [blk a0_15] (fun x hx => pick_sup [some 0, some 1] [[b0_3], M] rfl rfl x hx)
    replace hf15_1 := hf15_1.sub hsp
    refine x_pure 5 [(37, .tuple #[.slice a0_15 (x14.1).length c0_15, .int .i64 x14.2]), (41, .slice a0_15 (x14.1).length c0_15), (42, .int .i64 x14.2), (8, .slice a0_15 (x14.1).length c0_15), (9, .int .i64 x14.2)] _ _ _ (by kernel_rfl) ?_
    refine x_end rfl ?_
    refine k_then ?_
    refine c_norm [(4, .int .i64 x6.1), (5, .int .i64 x6.2.1), (6, .int .i64 x10.1), (8, .slice a0_15 (x14.1).length c0_15), (9, .int .i64 x14.2)] ⟨rfl, rfl, rfl, rfl, rfl, trivial⟩ (fun J => ?_)
    refine c_seq ?_
    refine c_plain ?_
    refine x_pure 1 [(44, .int .i64 x10.1)] _ _ _ (by kernel_rfl) ?_
    obtain ⟨x17, hx, h⟩ := bind_some h
    have hcall := code_Steps_w x10.1 _ w15 hx
    refine x_call 19 #[] #[] [.int .i64 x10.1] _ rfl rfl rfl rfl hcall ?_
    rintro v w18 ⟨rfl, he18⟩
    clear hcall hx
    refine ⟨.inl rfl, ?_⟩
    have hst := Stp.ext (ls := [blk a0_15, [b0_3], M]) he18
    replace hf3_1 := he18.box hf3_1 (fun h => by cases h)
    replace hf3_2 := hf3_2.step hst
    replace hf15_1 := hf15_1.step hst he18 (fun _ _ h => by cases h)
    replace hms := hms.ev he18
    replace hev := hev.ext he18
    refine x_pure 5 [(43, .tuple #[.int .i64 x17.1, .int .i64 x17.2]), (46, .int .i64 x17.1), (47, .int .i64 x17.2), (10, .int .i64 x17.1), (11, .int .i64 x17.2)] _ _ _ (by kernel_rfl) ?_
    refine x_end rfl ?_
    refine k_then ?_
    refine c_norm [(4, .int .i64 x6.1), (5, .int .i64 x6.2.1), (6, .int .i64 x10.1), (8, .slice a0_15 (x14.1).length c0_15), (9, .int .i64 x14.2), (10, .int .i64 x17.1), (11, .int .i64 x17.2)] ⟨rfl, rfl, rfl, rfl, rfl, rfl, rfl, trivial⟩ (fun J => ?_)
    refine c_seq ?_
    refine c_plain ?_
    refine x_pure 1 [(48, .int .i64 x6.1)] _ _ _ (by kernel_rfl) ?_
    refine x_binop (.int .i64 (IntKind.i64.wrap (1 * 2 ^ (min (Int.toNat (x6.1)) IntKind.i64.bits)))) (.int .i64 1) (.int .i64 x6.1) rfl rfl rfl rfl (vb_shl (guard_l h)) ?_
    replace h := guard_r h
    refine x_pure 2 [(50, .int .i64 (IntKind.i64.wrap ((IntKind.i64.wrap (1 * 2 ^ (min (Int.toNat (x6.1)) IntKind.i64.bits))) - 1))), (12, .int .i64 (IntKind.i64.wrap ((IntKind.i64.wrap (1 * 2 ^ (min (Int.toNat (x6.1)) IntKind.i64.bits))) - 1)))] _ _ _ (by kernel_rfl) ?_
    refine x_end rfl ?_
    refine k_then ?_
    refine c_norm [(4, .int .i64 x6.1), (5, .int .i64 x6.2.1), (6, .int .i64 x10.1), (8, .slice a0_15 (x14.1).length c0_15), (9, .int .i64 x14.2), (10, .int .i64 x17.1), (11, .int .i64 x17.2), (12, .int .i64 (IntKind.i64.wrap ((IntKind.i64.wrap (1 * 2 ^ (min (Int.toNat (x6.1)) IntKind.i64.bits))) - 1)))] ⟨rfl, rfl, rfl, rfl, rfl, rfl, rfl, rfl, trivial⟩ (fun J => ?_)
    refine c_seq ?_
    refine c_seq ?_
    refine c_plain ?_
    refine x_pure 1 [(51, .slice a0_15 (x14.1).length c0_15)] _ _ _ (by kernel_rfl) ?_
    refine x_len (vs := [.slice a0_15 (x14.1).length c0_15]) (.int .i64 ((x14.1).length : Int)) rfl rfl rfl (reads_len tsl22 _ _ _ _ _) ?_
    refine x_pure 1 [(53, .int .i64 0)] _ _ _ (by kernel_rfl) ?_
    refine x_end rfl ?_
    refine k_then ?_
    refine c_norm [(4, .int .i64 x6.1), (5, .int .i64 x6.2.1), (6, .int .i64 x10.1), (8, .slice a0_15 (x14.1).length c0_15), (9, .int .i64 x14.2), (10, .int .i64 x17.1), (11, .int .i64 x17.2), (12, .int .i64 (IntKind.i64.wrap ((IntKind.i64.wrap (1 * 2 ^ (min (Int.toNat (x6.1)) IntKind.i64.bits))) - 1))), (51, .slice a0_15 (x14.1).length c0_15), (52, .int .i64 ((x14.1).length : Int)), (53, .int .i64 0)] ⟨rfl, rfl, rfl, rfl, rfl, rfl, rfl, rfl, rfl, rfl, rfl, trivial⟩ (fun J => ?_)
    refine c_block ?_
    obtain ⟨d19, hd19, h19⟩ := bind_some h
    obtain ⟨m19, hd19⟩ := loop_some hd19
    refine c_loop (loop_rule hmx (σ := Nat × Int × Int × (List Int) × Option Addr × Nat) (fun s => match s with | (_, n_s12, t53__s53, d16g19, a16g19, c16g19) => [(4, .int .i64 x6.1), (5, .int .i64 x6.2.1), (6, .int .i64 x10.1), (8, .slice a16g19 (d16g19).length c16g19), (9, .int .i64 x14.2), (10, .int .i64 x17.1), (11, .int .i64 x17.2), (51, .slice a16g19 (d16g19).length c16g19), (52, .int .i64 ((x14.1).length : Int)), (12, .int .i64 n_s12), (53, .int .i64 t53__s53)]) (fun s w' => match s with | (m, n_s12, t53__s53, d16g19, a16g19, c16g19) => loopN (law12_CodeReal_L19 x6 x14) m (n_s12, t53__s53, d16g19) = some d19 ∧ Ev [] w w' ∧ MS w' [blk a16g19, [b0_3], M] ∧ FR w.heap.size [blk a16g19, [b0_3]] ∧ w'.heap[b0_3]? = some (.cells #[.slice a1_3 (x2.1).length c1_3, .int .i64 x8.2] 41 (0, 0)) ∧ SlR (eInt .i64) w' (fl [blk a16g19, [b0_3], M]) a1_3 c1_3 x2.1 ∧ OwnS (eInt .i64) 3 w' (fl [blk a16g19, [b0_3], M]) a16g19 c16g19 d16g19) (fun s => s.1) (m19, IntKind.i64.wrap ((IntKind.i64.wrap (1 * 2 ^ (min (Int.toNat (x6.1)) IntKind.i64.bits))) - 1), 0, x14.1, a0_15, c0_15) ⟨rfl, rfl, rfl, rfl, rfl, rfl, rfl, rfl, rfl, rfl, rfl, trivial⟩ ⟨hd19, hev, hms, hfr, hf3_1, hf3_2, hf15_1⟩ ?_)
    rintro ⟨m19, n_s12, t53__s53, d16g19, a16g19, c16g19⟩ J w19 ⟨hn19, hev, hms, hfr, hf3_1, hf3_2, hf15_1⟩
    rcases m19 with _ | m19
    · exact (loopN_zero hn19).elim
    obtain ⟨t19, h, hn19⟩ := bind_some hn19
    refine c_seq ?_
    refine c_plain ?_
    refine x_pure 1 [(54, .bool (decide (t53__s53 < ((x14.1).length : Int))))] _ _ _ (by kernel_rfl) ?_
    refine x_end rfl ?_
    refine k_then ?_
    refine c_norm [(4, .int .i64 x6.1), (5, .int .i64 x6.2.1), (6, .int .i64 x10.1), (8, .slice a16g19 (d16g19).length c16g19), (9, .int .i64 x14.2), (10, .int .i64 x17.1), (11, .int .i64 x17.2), (12, .int .i64 n_s12), (51, .slice a16g19 (d16g19).length c16g19), (52, .int .i64 ((x14.1).length : Int)), (53, .int .i64 t53__s53), (54, .bool (decide (t53__s53 < ((x14.1).length : Int))))] ⟨rfl, rfl, rfl, rfl, rfl, rfl, rfl, rfl, rfl, rfl, rfl, rfl, trivial⟩ (fun J => ?_)
    refine c_seq ?_
    refine c_cond (decide (t53__s53 < ((x14.1).length : Int))) rfl (fun hb => ?_) (fun hb => ?_)
    · replace h := ite_t hb h
      refine c_skip ?_
      refine k_then ?_
      refine c_norm [(4, .int .i64 x6.1), (5, .int .i64 x6.2.1), (6, .int .i64 x10.1), (8, .slice a16g19 (d16g19).length c16g19), (9, .int .i64 x14.2), (10, .int .i64 x17.1), (11, .int .i64 x17.2), (12, .int .i64 n_s12), (51, .slice a16g19 (d16g19).length c16g19), (52, .int .i64 ((x14.1).length : Int)), (53, .int .i64 t53__s53)] ⟨rfl, rfl, rfl, rfl, rfl, rfl, rfl, rfl, rfl, rfl, rfl, trivial⟩ (fun J => ?_)
      refine c_seq ?_
      refine c_block ?_
      refine c_seq ?_
      refine c_plain ?_
      refine x_pure 1 [(55, .int .i64 t53__s53)] _ _ _ (by kernel_rfl) ?_
      obtain ⟨x20, hx20, h⟩ := bind_some h
      obtain ⟨g20, cs20, ha, hr20, hc20, hR⟩ := own_index (Mo := []) tsl22 hf15_1 hx20
      subst ha
      obtain rfl := hR
      refine x_indexAddr (xv := .slice (some ⟨g20, 0, none⟩) (d16g19).length c16g19) (yv := .int .i64 t53__s53) (.pointer (some ⟨g20, (Int.toNat t53__s53) * (eInt .i64).n, none⟩)) rfl rfl rfl rfl hr20 ?_
      refine x_load (xv := .pointer (some ⟨g20, (Int.toNat t53__s53) * (eInt .i64).n, none⟩)) (.int .i64 x20) rfl rfl rfl (reads_cell0 tcell3 hc20 (fun _ h => by cases h)) ?_
      refine x_pure 2 [(13, .int .i64 t53__s53), (14, .int .i64 x20)] _ _ _ (by kernel_rfl) ?_
      refine x_end rfl ?_
      refine k_then ?_
      refine c_norm [(4, .int .i64 x6.1), (5, .int .i64 x6.2.1), (6, .int .i64 x10.1), (8, .slice (some ⟨g20, 0, none⟩) (d16g19).length c16g19), (9, .int .i64 x14.2), (10, .int .i64 x17.1), (11, .int .i64 x17.2), (12, .int .i64 n_s12), (13, .int .i64 t53__s53), (14, .int .i64 x20), (51, .slice (some ⟨g20, 0, none⟩) (d16g19).length c16g19), (52, .int .i64 ((x14.1).length : Int)), (53, .int .i64 t53__s53)] ⟨rfl, rfl, rfl, rfl, rfl, rfl, rfl, rfl, rfl, rfl, rfl, rfl, rfl, trivial⟩ (fun J => ?_)
      refine c_seq ?_
      refine c_seq ?_
      refine c_plain ?_
      refine x_pure 4 [(58, .int .i64 x20), (59, .int .i64 x6.1), (60, .bool (decide (x20 < x6.1))), (61, .bool (decide (x20 < x6.1)))] _ _ _ (by kernel_rfl) ?_
      refine x_split 61 (decide (x20 < x6.1)) rfl (fun hb => ?_) (fun hb => ?_)
      · replace h := ite_t hb h
        refine x_pure 16 [(62, undef), (63, undef), (64, .bool true), (65, .bool true), (66, undef), (67, undef), (68, undef), (69, undef), (70, undef), (71, undef), (72, undef), (73, undef), (74, undef), (75, undef), (76, undef), (77, .bool true)] _ _ _ (by kernel_rfl) ?_
        refine x_end rfl ?_
        refine k_then ?_
        refine c_norm [(4, .int .i64 x6.1), (5, .int .i64 x6.2.1), (6, .int .i64 x10.1), (8, .slice (some ⟨g20, 0, none⟩) (d16g19).length c16g19), (9, .int .i64 x14.2), (10, .int .i64 x17.1), (11, .int .i64 x17.2), (12, .int .i64 n_s12), (14, .int .i64 x20), (51, .slice (some ⟨g20, 0, none⟩) (d16g19).length c16g19), (52, .int .i64 ((x14.1).length : Int)), (53, .int .i64 t53__s53), (77, .bool true)] ⟨rfl, rfl, rfl, rfl, rfl, rfl, rfl, rfl, rfl, rfl, rfl, rfl, rfl, trivial⟩ (fun J => ?_)
        refine c_true rfl ?_
        refine c_seq ?_
        refine c_plain ?_
        refine x_pure 1 [(2, .bool false)] _ _ _ (by kernel_rfl) ?_
        refine x_end rfl ?_
        refine k_then ?_
        refine c_norm [(2, .bool false)] ⟨rfl, trivial⟩ (fun J => ?_)
        refine c_ret ?_
        refine k_then_ret ?_
        refine k_block_ret ?_
        refine k_then_ret ?_
        have hx := some_inj h
        subst hx
        have hy := some_inj hn19
        subst hy
        replace h := h19
        refine k_then_ret ?_
        refine k_block_ret ?_
        refine k_then_ret ?_
        refine r_ret (r_one (.bool false) rfl ?_)
        have hx := some_inj h
        subst hx
        have hsu : ∀ x ∈ fl [M], x ∈ fl [blk (some ⟨g20, 0, none⟩), [b0_3], M] := fl_right (loc := [blk (some ⟨g20, 0, none⟩), [b0_3]]) (par := [M])
        exact ⟨rfl, hev⟩
      · replace h := ite_f hb h
        refine x_pure 4 [(62, .int .i64 x20), (63, .bool (decide (x20 ≥ 12))), (64, .bool (decide (x20 ≥ 12))), (65, .bool (decide (x20 ≥ 12)))] _ _ _ (by kernel_rfl) ?_
        refine x_split 65 (decide (x20 ≥ 12)) rfl (fun hb => ?_) (fun hb => ?_)
        · replace h := ite_t hb h
          refine x_pure 12 [(66, undef), (67, undef), (68, undef), (69, undef), (70, undef), (71, undef), (72, undef), (73, undef), (74, undef), (75, undef), (76, undef), (77, .bool true)] _ _ _ (by kernel_rfl) ?_
          refine x_end rfl ?_
          refine k_then ?_
          refine c_norm [(4, .int .i64 x6.1), (5, .int .i64 x6.2.1), (6, .int .i64 x10.1), (8, .slice (some ⟨g20, 0, none⟩) (d16g19).length c16g19), (9, .int .i64 x14.2), (10, .int .i64 x17.1), (11, .int .i64 x17.2), (12, .int .i64 n_s12), (14, .int .i64 x20), (51, .slice (some ⟨g20, 0, none⟩) (d16g19).length c16g19), (52, .int .i64 ((x14.1).length : Int)), (53, .int .i64 t53__s53), (77, .bool true)] ⟨rfl, rfl, rfl, rfl, rfl, rfl, rfl, rfl, rfl, rfl, rfl, rfl, rfl, trivial⟩ (fun J => ?_)
          refine c_true rfl ?_
          refine c_seq ?_
          refine c_plain ?_
          refine x_pure 1 [(2, .bool false)] _ _ _ (by kernel_rfl) ?_
          refine x_end rfl ?_
          refine k_then ?_
          refine c_norm [(2, .bool false)] ⟨rfl, trivial⟩ (fun J => ?_)
          refine c_ret ?_
          refine k_then_ret ?_
          refine k_block_ret ?_
          refine k_then_ret ?_
          have hx := some_inj h
          subst hx
          have hy := some_inj hn19
          subst hy
          replace h := h19
          refine k_then_ret ?_
          refine k_block_ret ?_
          refine k_then_ret ?_
          refine r_ret (r_one (.bool false) rfl ?_)
          have hx := some_inj h
          subst hx
          have hsu : ∀ x ∈ fl [M], x ∈ fl [blk (some ⟨g20, 0, none⟩), [b0_3], M] := fl_right (loc := [blk (some ⟨g20, 0, none⟩), [b0_3]]) (par := [M])
          exact ⟨rfl, hev⟩
        · replace h := ite_f hb h
          refine x_pure 3 [(66, .int .i64 t53__s53), (67, .bool (decide (t53__s53 > 0))), (68, .bool (decide (t53__s53 > 0)))] _ _ _ (by kernel_rfl) ?_
          refine x_split 68 (decide (t53__s53 > 0)) rfl (fun hb => ?_) (fun hb => ?_)
          · replace h := ite_t hb h
            refine x_pure 4 [(69, .int .i64 x20), (70, .slice (some ⟨g20, 0, none⟩) (d16g19).length c16g19), (71, .int .i64 t53__s53), (72, .int .i64 (IntKind.i64.wrap (t53__s53 - 1)))] _ _ _ (by kernel_rfl) ?_
            obtain ⟨x22, hx22, h⟩ := bind_some h
            obtain ⟨g22, cs22, ha, hr22, hc22, hR⟩ := own_index (Mo := []) tsl22 hf15_1 hx22
            have hg : g20 = g22 := by cases ha; rfl
            subst hg
            obtain rfl := hR
            refine x_indexAddr (xv := .slice (some ⟨g20, 0, none⟩) (d16g19).length c16g19) (yv := .int .i64 (IntKind.i64.wrap (t53__s53 - 1))) (.pointer (some ⟨g20, (Int.toNat (IntKind.i64.wrap (t53__s53 - 1))) * (eInt .i64).n, none⟩)) rfl rfl rfl rfl hr22 ?_
            refine x_load (xv := .pointer (some ⟨g20, (Int.toNat (IntKind.i64.wrap (t53__s53 - 1))) * (eInt .i64).n, none⟩)) (.int .i64 x22) rfl rfl rfl (reads_cell0 tcell3 hc22 (fun _ h => by cases h)) ?_
            refine x_pure 3 [(75, .bool (decide (x20 ≤ x22))), (76, .bool (decide (x20 ≤ x22))), (77, .bool (decide (x20 ≤ x22)))] _ _ _ (by kernel_rfl) ?_
            refine x_end rfl ?_
            refine k_then ?_
            refine c_norm [(4, .int .i64 x6.1), (5, .int .i64 x6.2.1), (6, .int .i64 x10.1), (8, .slice (some ⟨g20, 0, none⟩) (d16g19).length c16g19), (9, .int .i64 x14.2), (10, .int .i64 x17.1), (11, .int .i64 x17.2), (12, .int .i64 n_s12), (14, .int .i64 x20), (51, .slice (some ⟨g20, 0, none⟩) (d16g19).length c16g19), (52, .int .i64 ((x14.1).length : Int)), (53, .int .i64 t53__s53), (77, .bool (decide (x20 ≤ x22)))] ⟨rfl, rfl, rfl, rfl, rfl, rfl, rfl, rfl, rfl, rfl, rfl, rfl, rfl, trivial⟩ (fun J => ?_)
            refine c_cond (decide (x20 ≤ x22)) rfl (fun hb => ?_) (fun hb => ?_)
            · replace h := ite_t hb h
              refine c_seq ?_
              refine c_plain ?_
              refine x_pure 1 [(2, .bool false)] _ _ _ (by kernel_rfl) ?_
              refine x_end rfl ?_
              refine k_then ?_
              refine c_norm [(2, .bool false)] ⟨rfl, trivial⟩ (fun J => ?_)
              refine c_ret ?_
              refine k_then_ret ?_
              refine k_block_ret ?_
              refine k_then_ret ?_
              have hx := some_inj h
              subst hx
              have hy := some_inj hn19
              subst hy
              replace h := h19
              refine k_then_ret ?_
              refine k_block_ret ?_
              refine k_then_ret ?_
              refine r_ret (r_one (.bool false) rfl ?_)
              have hx := some_inj h
              subst hx
              have hsu : ∀ x ∈ fl [M], x ∈ fl [blk (some ⟨g20, 0, none⟩), [b0_3], M] := fl_right (loc := [blk (some ⟨g20, 0, none⟩), [b0_3]]) (par := [M])
              exact ⟨rfl, hev⟩
            · replace h := ite_f hb h
              refine c_skip ?_
              refine k_then ?_
              refine c_norm [(4, .int .i64 x6.1), (5, .int .i64 x6.2.1), (6, .int .i64 x10.1), (8, .slice (some ⟨g20, 0, none⟩) (d16g19).length c16g19), (9, .int .i64 x14.2), (10, .int .i64 x17.1), (11, .int .i64 x17.2), (12, .int .i64 n_s12), (14, .int .i64 x20), (51, .slice (some ⟨g20, 0, none⟩) (d16g19).length c16g19), (52, .int .i64 ((x14.1).length : Int)), (53, .int .i64 t53__s53)] ⟨rfl, rfl, rfl, rfl, rfl, rfl, rfl, rfl, rfl, rfl, rfl, rfl, trivial⟩ (fun J => ?_)
              refine c_plain ?_
              refine x_pure 2 [(78, .int .i64 n_s12), (79, .int .i64 x20)] _ _ _ (by kernel_rfl) ?_
              refine x_binop (.int .i64 (IntKind.i64.wrap (1 * 2 ^ (min (Int.toNat (x20)) IntKind.i64.bits)))) (.int .i64 1) (.int .i64 x20) rfl rfl rfl rfl (vb_shl (guard_l h)) ?_
              replace h := guard_r h
              refine x_pure 2 [(81, .int .i64 (IntKind.i64.wrap (n_s12 + (IntKind.i64.wrap (1 * 2 ^ (min (Int.toNat (x20)) IntKind.i64.bits)))))), (12, .int .i64 (IntKind.i64.wrap (n_s12 + (IntKind.i64.wrap (1 * 2 ^ (min (Int.toNat (x20)) IntKind.i64.bits))))))] _ _ _ (by kernel_rfl) ?_
              refine x_end rfl ?_
              refine k_block ?_
              refine k_then ?_
              refine c_norm [(4, .int .i64 x6.1), (5, .int .i64 x6.2.1), (6, .int .i64 x10.1), (8, .slice (some ⟨g20, 0, none⟩) (d16g19).length c16g19), (9, .int .i64 x14.2), (10, .int .i64 x17.1), (11, .int .i64 x17.2), (12, .int .i64 (IntKind.i64.wrap (n_s12 + (IntKind.i64.wrap (1 * 2 ^ (min (Int.toNat (x20)) IntKind.i64.bits)))))), (51, .slice (some ⟨g20, 0, none⟩) (d16g19).length c16g19), (52, .int .i64 ((x14.1).length : Int)), (53, .int .i64 t53__s53)] ⟨rfl, rfl, rfl, rfl, rfl, rfl, rfl, rfl, rfl, rfl, rfl, trivial⟩ (fun J => ?_)
              refine c_plain ?_
              refine x_pure 2 [(82, .int .i64 (IntKind.i64.wrap (t53__s53 + 1))), (53, .int .i64 (IntKind.i64.wrap (t53__s53 + 1)))] _ _ _ (by kernel_rfl) ?_
              refine x_end rfl ?_
              have hx := some_inj h
              subst hx
              exact k_then ⟨(m19, IntKind.i64.wrap (n_s12 + (IntKind.i64.wrap (1 * 2 ^ (min (Int.toNat (x20)) IntKind.i64.bits)))), IntKind.i64.wrap (t53__s53 + 1), d16g19, (some ⟨g20, 0, none⟩), c16g19), ⟨rfl, rfl, rfl, rfl, rfl, rfl, rfl, rfl, rfl, rfl, rfl, trivial⟩, ⟨hn19, hev, hms, hfr, hf3_1, hf3_2, hf15_1⟩, Nat.lt_succ_self _⟩
          · replace h := ite_f hb h
            refine x_pure 9 [(69, undef), (70, undef), (71, undef), (72, undef), (73, undef), (74, undef), (75, undef), (76, .bool false), (77, .bool false)] _ _ _ (by kernel_rfl) ?_
            refine x_end rfl ?_
            refine k_then ?_
            refine c_norm [(4, .int .i64 x6.1), (5, .int .i64 x6.2.1), (6, .int .i64 x10.1), (8, .slice (some ⟨g20, 0, none⟩) (d16g19).length c16g19), (9, .int .i64 x14.2), (10, .int .i64 x17.1), (11, .int .i64 x17.2), (12, .int .i64 n_s12), (14, .int .i64 x20), (51, .slice (some ⟨g20, 0, none⟩) (d16g19).length c16g19), (52, .int .i64 ((x14.1).length : Int)), (53, .int .i64 t53__s53), (77, .bool false)] ⟨rfl, rfl, rfl, rfl, rfl, rfl, rfl, rfl, rfl, rfl, rfl, rfl, rfl, trivial⟩ (fun J => ?_)
            refine c_false rfl ?_
            refine c_skip ?_
            refine k_then ?_
            refine c_plain ?_
            refine x_pure 2 [(78, .int .i64 n_s12), (79, .int .i64 x20)] _ _ _ (by kernel_rfl) ?_
            refine x_binop (.int .i64 (IntKind.i64.wrap (1 * 2 ^ (min (Int.toNat (x20)) IntKind.i64.bits)))) (.int .i64 1) (.int .i64 x20) rfl rfl rfl rfl (vb_shl (guard_l h)) ?_
            replace h := guard_r h
            refine x_pure 2 [(81, .int .i64 (IntKind.i64.wrap (n_s12 + (IntKind.i64.wrap (1 * 2 ^ (min (Int.toNat (x20)) IntKind.i64.bits)))))), (12, .int .i64 (IntKind.i64.wrap (n_s12 + (IntKind.i64.wrap (1 * 2 ^ (min (Int.toNat (x20)) IntKind.i64.bits))))))] _ _ _ (by kernel_rfl) ?_
            refine x_end rfl ?_
            refine k_block ?_
            refine k_then ?_
            refine c_norm [(4, .int .i64 x6.1), (5, .int .i64 x6.2.1), (6, .int .i64 x10.1), (8, .slice (some ⟨g20, 0, none⟩) (d16g19).length c16g19), (9, .int .i64 x14.2), (10, .int .i64 x17.1), (11, .int .i64 x17.2), (12, .int .i64 (IntKind.i64.wrap (n_s12 + (IntKind.i64.wrap (1 * 2 ^ (min (Int.toNat (x20)) IntKind.i64.bits)))))), (51, .slice (some ⟨g20, 0, none⟩) (d16g19).length c16g19), (52, .int .i64 ((x14.1).length : Int)), (53, .int .i64 t53__s53)] ⟨rfl, rfl, rfl, rfl, rfl, rfl, rfl, rfl, rfl, rfl, rfl, trivial⟩ (fun J => ?_)
            refine c_plain ?_
            refine x_pure 2 [(82, .int .i64 (IntKind.i64.wrap (t53__s53 + 1))), (53, .int .i64 (IntKind.i64.wrap (t53__s53 + 1)))] _ _ _ (by kernel_rfl) ?_
            refine x_end rfl ?_
            have hx := some_inj h
            subst hx
            exact k_then ⟨(m19, IntKind.i64.wrap (n_s12 + (IntKind.i64.wrap (1 * 2 ^ (min (Int.toNat (x20)) IntKind.i64.bits)))), IntKind.i64.wrap (t53__s53 + 1), d16g19, (some ⟨g20, 0, none⟩), c16g19), ⟨rfl, rfl, rfl, rfl, rfl, rfl, rfl, rfl, rfl, rfl, rfl, trivial⟩, ⟨hn19, hev, hms, hfr, hf3_1, hf3_2, hf15_1⟩, Nat.lt_succ_self _⟩
    · replace h := ite_f hb h
      refine c_exit ?_
      refine k_then_exit ?_
      have hx := some_inj h
      subst hx
      have hy := some_inj hn19
      subst hy
      replace h := h19
      refine k_then_exit ?_
      refine k_block_in ?_
      refine k_then ?_
      refine c_norm [(5, .int .i64 x6.2.1), (6, .int .i64 x10.1), (8, .slice a16g19 (d16g19).length c16g19), (9, .int .i64 x14.2), (10, .int .i64 x17.1), (11, .int .i64 x17.2), (12, .int .i64 n_s12)] ⟨rfl, rfl, rfl, rfl, rfl, rfl, rfl, trivial⟩ (fun J => ?_)
      refine c_seq ?_
      refine c_plain ?_
      refine x_pure 3 [(83, .int .i64 x14.2), (84, .bool (x14.2 == 0)), (85, .bool (x14.2 == 0))] _ _ _ (by kernel_rfl) ?_
      refine x_split 85 (x14.2 == 0) rfl (fun hb => ?_) (fun hb => ?_)
      · replace h := ite_t hb h
        refine x_pure 4 [(86, .int .i64 x17.2), (87, .bool (x17.2 == 0)), (88, .bool (x17.2 == 0)), (89, .bool (x17.2 == 0))] _ _ _ (by kernel_rfl) ?_
        refine x_split 89 (x17.2 == 0) rfl (fun hb => ?_) (fun hb => ?_)
        · replace h := ite_t hb h
          refine x_pure 5 [(90, .int .i64 n_s12), (91, .int .i64 x10.1), (92, .bool (n_s12 == x10.1)), (93, .bool (n_s12 == x10.1)), (94, .bool (n_s12 == x10.1))] _ _ _ (by kernel_rfl) ?_
          refine x_split 94 (n_s12 == x10.1) rfl (fun hb => ?_) (fun hb => ?_)
          · replace h := ite_t hb h
            refine x_pure 1 [(95, .slice a16g19 (d16g19).length c16g19)] _ _ _ (by kernel_rfl) ?_
            refine x_len (vs := [.slice a16g19 (d16g19).length c16g19]) (.int .i64 ((d16g19).length : Int)) rfl rfl rfl (reads_len tsl22 _ _ _ _ _) ?_
            refine x_pure 4 [(97, .int .i64 x6.2.1), (98, .bool (decide (((d16g19).length : Int) ≤ x6.2.1))), (99, .bool (decide (((d16g19).length : Int) ≤ x6.2.1))), (100, .bool (decide (((d16g19).length : Int) ≤ x6.2.1)))] _ _ _ (by kernel_rfl) ?_
            refine x_split 100 (decide (((d16g19).length : Int) ≤ x6.2.1)) rfl (fun hb => ?_) (fun hb => ?_)
            · replace h := ite_t hb h
              refine x_pure 3 [(101, .int .i64 x10.1), (102, .bool (x10.1 == 0)), (103, .bool (x10.1 == 0))] _ _ _ (by kernel_rfl) ?_
              refine x_split 103 (x10.1 == 0) rfl (fun hb => ?_) (fun hb => ?_)
              · replace h := ite_t hb h
                refine x_pure 4 [(104, .int .i64 x17.1), (105, .bool (x17.1 == 0)), (106, .bool (x17.1 == 0)), (107, .bool (x17.1 == 0))] _ _ _ (by kernel_rfl) ?_
                refine x_split 107 (x17.1 == 0) rfl (fun hb => ?_) (fun hb => ?_)
                · replace h := ite_t hb h
                  refine x_pure 12 [(108, undef), (109, undef), (110, undef), (111, undef), (112, undef), (113, undef), (114, undef), (115, undef), (116, undef), (117, .bool true), (118, .bool true), (119, .bool true)] _ _ _ (by kernel_rfl) ?_
                  obtain ⟨x24, hx, h⟩ := bind_some h
                  have hcall := law12_sane_w _ w19 hx
                  refine x_call 14 #[] #[] [] _ rfl rfl rfl rfl hcall ?_
                  rintro v w25 ⟨rfl, he25⟩
                  clear hcall hx
                  refine ⟨.inl rfl, ?_⟩
                  have hst := Stp.ext (ls := [blk a16g19, [b0_3], M]) he25
                  replace hf3_1 := he25.box hf3_1 (fun h => by cases h)
                  replace hf3_2 := hf3_2.step hst
                  replace hf15_1 := hf15_1.step hst he25 (fun _ _ h => by cases h)
                  replace hms := hms.ev he25
                  replace hev := hev.ext he25
                  refine x_pure 2 [(121, .bool x24), (2, .bool x24)] _ _ _ (by kernel_rfl) ?_
                  refine x_end rfl ?_
                  refine k_then ?_
                  refine c_norm [(2, .bool x24)] ⟨rfl, trivial⟩ (fun J => ?_)
                  refine c_ret ?_
                  refine r_ret (r_one (.bool x24) rfl ?_)
                  have hx := some_inj h
                  subst hx
                  have hsu : ∀ x ∈ fl [M], x ∈ fl [blk a16g19, [b0_3], M] := fl_right (loc := [blk a16g19, [b0_3]]) (par := [M])
                  exact ⟨rfl, hev⟩
                · replace h := ite_f hb h
                  refine x_pure 3 [(108, .int .i64 x10.1), (109, .bool (decide (x10.1 > 0))), (110, .bool (decide (x10.1 > 0)))] _ _ _ (by kernel_rfl) ?_
                  refine x_split 110 (decide (x10.1 > 0)) rfl (fun hb => ?_) (fun hb => ?_)
                  · replace h := ite_t hb h
                    refine x_pure 3 [(111, .int .i64 x10.1), (112, .int .i64 x17.1), (113, .int .i64 (IntKind.i64.wrap (x17.1 - 1)))] _ _ _ (by kernel_rfl) ?_
                    refine x_binop (.int .i64 (Int.fdiv x10.1 (2 ^ (min (Int.toNat ((IntKind.i64.wrap (x17.1 - 1)))) IntKind.i64.bits)))) (.int .i64 x10.1) (.int .i64 (IntKind.i64.wrap (x17.1 - 1))) rfl rfl rfl rfl (vb_shr (guard_l h)) ?_
                    replace h := guard_r h
                    refine x_pure 5 [(115, .bool ((Int.fdiv x10.1 (2 ^ (min (Int.toNat ((IntKind.i64.wrap (x17.1 - 1)))) IntKind.i64.bits))) == 1)), (116, .bool ((Int.fdiv x10.1 (2 ^ (min (Int.toNat ((IntKind.i64.wrap (x17.1 - 1)))) IntKind.i64.bits))) == 1)), (117, .bool ((Int.fdiv x10.1 (2 ^ (min (Int.toNat ((IntKind.i64.wrap (x17.1 - 1)))) IntKind.i64.bits))) == 1)), (118, .bool ((Int.fdiv x10.1 (2 ^ (min (Int.toNat ((IntKind.i64.wrap (x17.1 - 1)))) IntKind.i64.bits))) == 1)), (119, .bool ((Int.fdiv x10.1 (2 ^ (min (Int.toNat ((IntKind.i64.wrap (x17.1 - 1)))) IntKind.i64.bits))) == 1))] _ _ _ (by kernel_rfl) ?_
                    refine x_split 119 ((Int.fdiv x10.1 (2 ^ (min (Int.toNat ((IntKind.i64.wrap (x17.1 - 1)))) IntKind.i64.bits))) == 1) rfl (fun hb => ?_) (fun hb => ?_)
                    · replace h := ite_t hb h
                      obtain ⟨x26, hx, h⟩ := bind_some h
                      have hcall := law12_sane_w _ w19 hx
                      refine x_call 14 #[] #[] [] _ rfl rfl rfl rfl hcall ?_
                      rintro v w27 ⟨rfl, he27⟩
                      clear hcall hx
                      refine ⟨.inl rfl, ?_⟩
                      have hst := Stp.ext (ls := [blk a16g19, [b0_3], M]) he27
                      replace hf3_1 := he27.box hf3_1 (fun h => by cases h)
                      replace hf3_2 := hf3_2.step hst
                      replace hf15_1 := hf15_1.step hst he27 (fun _ _ h => by cases h)
                      replace hms := hms.ev he27
                      replace hev := hev.ext he27
                      refine x_pure 2 [(121, .bool x26), (2, .bool x26)] _ _ _ (by kernel_rfl) ?_
                      refine x_end rfl ?_
                      refine k_then ?_
                      refine c_norm [(2, .bool x26)] ⟨rfl, trivial⟩ (fun J => ?_)
                      refine c_ret ?_
                      refine r_ret (r_one (.bool x26) rfl ?_)
                      have hx := some_inj h
                      subst hx
                      have hsu : ∀ x ∈ fl [M], x ∈ fl [blk a16g19, [b0_3], M] := fl_right (loc := [blk a16g19, [b0_3]]) (par := [M])
                      exact ⟨rfl, hev⟩
                    · replace h := ite_f hb h
                      refine x_pure 3 [(120, undef), (121, .bool false), (2, .bool false)] _ _ _ (by kernel_rfl) ?_
                      refine x_end rfl ?_
                      refine k_then ?_
                      refine c_norm [(2, .bool false)] ⟨rfl, trivial⟩ (fun J => ?_)
                      refine c_ret ?_
                      refine r_ret (r_one (.bool false) rfl ?_)
                      have hx := some_inj h
                      subst hx
                      have hsu : ∀ x ∈ fl [M], x ∈ fl [blk a16g19, [b0_3], M] := fl_right (loc := [blk a16g19, [b0_3]]) (par := [M])
                      exact ⟨rfl, hev⟩
                  · replace h := ite_f hb h
                    refine x_pure 12 [(111, undef), (112, undef), (113, undef), (114, undef), (115, undef), (116, .bool false), (117, .bool false), (118, .bool false), (119, .bool false), (120, undef), (121, .bool false), (2, .bool false)] _ _ _ (by kernel_rfl) ?_
                    refine x_end rfl ?_
                    refine k_then ?_
                    refine c_norm [(2, .bool false)] ⟨rfl, trivial⟩ (fun J => ?_)
                    refine c_ret ?_
                    refine r_ret (r_one (.bool false) rfl ?_)
                    have hx := some_inj h
                    subst hx
                    have hsu : ∀ x ∈ fl [M], x ∈ fl [blk a16g19, [b0_3], M] := fl_right (loc := [blk a16g19, [b0_3]]) (par := [M])
                    exact ⟨rfl, hev⟩
              · replace h := ite_f hb h
                refine x_pure 7 [(104, undef), (105, undef), (106, .bool false), (107, .bool false), (108, .int .i64 x10.1), (109, .bool (decide (x10.1 > 0))), (110, .bool (decide (x10.1 > 0)))] _ _ _ (by kernel_rfl) ?_
                refine x_split 110 (decide (x10.1 > 0)) rfl (fun hb => ?_) (fun hb => ?_)
                · replace h := ite_t hb h
                  refine x_pure 3 [(111, .int .i64 x10.1), (112, .int .i64 x17.1), (113, .int .i64 (IntKind.i64.wrap (x17.1 - 1)))] _ _ _ (by kernel_rfl) ?_
                  refine x_binop (.int .i64 (Int.fdiv x10.1 (2 ^ (min (Int.toNat ((IntKind.i64.wrap (x17.1 - 1)))) IntKind.i64.bits)))) (.int .i64 x10.1) (.int .i64 (IntKind.i64.wrap (x17.1 - 1))) rfl rfl rfl rfl (vb_shr (guard_l h)) ?_
                  replace h := guard_r h
                  refine x_pure 5 [(115, .bool ((Int.fdiv x10.1 (2 ^ (min (Int.toNat ((IntKind.i64.wrap (x17.1 - 1)))) IntKind.i64.bits))) == 1)), (116, .bool ((Int.fdiv x10.1 (2 ^ (min (Int.toNat ((IntKind.i64.wrap (x17.1 - 1)))) IntKind.i64.bits))) == 1)), (117, .bool ((Int.fdiv x10.1 (2 ^ (min (Int.toNat ((IntKind.i64.wrap (x17.1 - 1)))) IntKind.i64.bits))) == 1)), (118, .bool ((Int.fdiv x10.1 (2 ^ (min (Int.toNat ((IntKind.i64.wrap (x17.1 - 1)))) IntKind.i64.bits))) == 1)), (119, .bool ((Int.fdiv x10.1 (2 ^ (min (Int.toNat ((IntKind.i64.wrap (x17.1 - 1)))) IntKind.i64.bits))) == 1))] _ _ _ (by kernel_rfl) ?_
                  refine x_split 119 ((Int.fdiv x10.1 (2 ^ (min (Int.toNat ((IntKind.i64.wrap (x17.1 - 1)))) IntKind.i64.bits))) == 1) rfl (fun hb => ?_) (fun hb => ?_)
                  · replace h := ite_t hb h
                    obtain ⟨x28, hx, h⟩ := bind_some h
                    have hcall := law12_sane_w _ w19 hx
                    refine x_call 14 #[] #[] [] _ rfl rfl rfl rfl hcall ?_
                    rintro v w29 ⟨rfl, he29⟩
                    clear hcall hx
                    refine ⟨.inl rfl, ?_⟩
                    have hst := Stp.ext (ls := [blk a16g19, [b0_3], M]) he29
                    replace hf3_1 := he29.box hf3_1 (fun h => by cases h)
                    replace hf3_2 := hf3_2.step hst
                    replace hf15_1 := hf15_1.step hst he29 (fun _ _ h => by cases h)
                    replace hms := hms.ev he29
                    replace hev := hev.ext he29
                    refine x_pure 2 [(121, .bool x28), (2, .bool x28)] _ _ _ (by kernel_rfl) ?_
                    refine x_end rfl ?_
                    refine k_then ?_
                    refine c_norm [(2, .bool x28)] ⟨rfl, trivial⟩ (fun J => ?_)
                    refine c_ret ?_
                    refine r_ret (r_one (.bool x28) rfl ?_)
                    have hx := some_inj h
                    subst hx
                    have hsu : ∀ x ∈ fl [M], x ∈ fl [blk a16g19, [b0_3], M] := fl_right (loc := [blk a16g19, [b0_3]]) (par := [M])
                    exact ⟨rfl, hev⟩
                  · replace h := ite_f hb h
                    refine x_pure 3 [(120, undef), (121, .bool false), (2, .bool false)] _ _ _ (by kernel_rfl) ?_
                    refine x_end rfl ?_
                    refine k_then ?_
                    refine c_norm [(2, .bool false)] ⟨rfl, trivial⟩ (fun J => ?_)
                    refine c_ret ?_
                    refine r_ret (r_one (.bool false) rfl ?_)
                    have hx := some_inj h
                    subst hx
                    have hsu : ∀ x ∈ fl [M], x ∈ fl [blk a16g19, [b0_3], M] := fl_right (loc := [blk a16g19, [b0_3]]) (par := [M])
                    exact ⟨rfl, hev⟩
                · replace h := ite_f hb h
                  refine x_pure 12 [(111, undef), (112, undef), (113, undef), (114, undef), (115, undef), (116, .bool false), (117, .bool false), (118, .bool false), (119, .bool false), (120, undef), (121, .bool false), (2, .bool false)] _ _ _ (by kernel_rfl) ?_
                  refine x_end rfl ?_
                  refine k_then ?_
                  refine c_norm [(2, .bool false)] ⟨rfl, trivial⟩ (fun J => ?_)
                  refine c_ret ?_
                  refine r_ret (r_one (.bool false) rfl ?_)
                  have hx := some_inj h
                  subst hx
                  have hsu : ∀ x ∈ fl [M], x ∈ fl [blk a16g19, [b0_3], M] := fl_right (loc := [blk a16g19, [b0_3]]) (par := [M])
                  exact ⟨rfl, hev⟩
            · replace h := ite_f hb h
              refine x_pure 22 [(101, undef), (102, undef), (103, undef), (104, undef), (105, undef), (106, undef), (107, undef), (108, undef), (109, undef), (110, undef), (111, undef), (112, undef), (113, undef), (114, undef), (115, undef), (116, undef), (117, undef), (118, .bool false), (119, .bool false), (120, undef), (121, .bool false), (2, .bool false)] _ _ _ (by kernel_rfl) ?_
              refine x_end rfl ?_
              refine k_then ?_
              refine c_norm [(2, .bool false)] ⟨rfl, trivial⟩ (fun J => ?_)
              refine c_ret ?_
              refine r_ret (r_one (.bool false) rfl ?_)
              have hx := some_inj h
              subst hx
              have hsu : ∀ x ∈ fl [M], x ∈ fl [blk a16g19, [b0_3], M] := fl_right (loc := [blk a16g19, [b0_3]]) (par := [M])
              exact ⟨rfl, hev⟩
          · replace h := ite_f hb h
            refine x_pure 28 [(95, undef), (96, undef), (97, undef), (98, undef), (99, .bool false), (100, .bool false), (101, undef), (102, undef), (103, undef), (104, undef), (105, undef), (106, undef), (107, undef), (108, undef), (109, undef), (110, undef), (111, undef), (112, undef), (113, undef), (114, undef), (115, undef), (116, undef), (117, undef), (118, .bool false), (119, .bool false), (120, undef), (121, .bool false), (2, .bool false)] _ _ _ (by kernel_rfl) ?_
            refine x_end rfl ?_
            refine k_then ?_
            refine c_norm [(2, .bool false)] ⟨rfl, trivial⟩ (fun J => ?_)
            refine c_ret ?_
            refine r_ret (r_one (.bool false) rfl ?_)
            have hx := some_inj h
            subst hx
            have hsu : ∀ x ∈ fl [M], x ∈ fl [blk a16g19, [b0_3], M] := fl_right (loc := [blk a16g19, [b0_3]]) (par := [M])
            exact ⟨rfl, hev⟩
        · replace h := ite_f hb h
          refine x_pure 33 [(90, undef), (91, undef), (92, undef), (93, .bool false), (94, .bool false), (95, undef), (96, undef), (97, undef), (98, undef), (99, .bool false), (100, .bool false), (101, undef), (102, undef), (103, undef), (104, undef), (105, undef), (106, undef), (107, undef), (108, undef), (109, undef), (110, undef), (111, undef), (112, undef), (113, undef), (114, undef), (115, undef), (116, undef), (117, undef), (118, .bool false), (119, .bool false), (120, undef), (121, .bool false), (2, .bool false)] _ _ _ (by kernel_rfl) ?_
          refine x_end rfl ?_
          refine k_then ?_
          refine c_norm [(2, .bool false)] ⟨rfl, trivial⟩ (fun J => ?_)
          refine c_ret ?_
          refine r_ret (r_one (.bool false) rfl ?_)
          have hx := some_inj h
          subst hx
          have hsu : ∀ x ∈ fl [M], x ∈ fl [blk a16g19, [b0_3], M] := fl_right (loc := [blk a16g19, [b0_3]]) (par := [M])
          exact ⟨rfl, hev⟩
      · replace h := ite_f hb h
        refine x_pure 37 [(86, undef), (87, undef), (88, .bool false), (89, .bool false), (90, undef), (91, undef), (92, undef), (93, .bool false), (94, .bool false), (95, undef), (96, undef), (97, undef), (98, undef), (99, .bool false), (100, .bool false), (101, undef), (102, undef), (103, undef), (104, undef), (105, undef), (106, undef), (107, undef), (108, undef), (109, undef), (110, undef), (111, undef), (112, undef), (113, undef), (114, undef), (115, undef), (116, undef), (117, undef), (118, .bool false), (119, .bool false), (120, undef), (121, .bool false), (2, .bool false)] _ _ _ (by kernel_rfl) ?_
        refine x_end rfl ?_
        refine k_then ?_
        refine c_norm [(2, .bool false)] ⟨rfl, trivial⟩ (fun J => ?_)
        refine c_ret ?_
        refine r_ret (r_one (.bool false) rfl ?_)
        have hx := some_inj h
        subst hx
        have hsu : ∀ x ∈ fl [M], x ∈ fl [blk a16g19, [b0_3], M] := fl_right (loc := [blk a16g19, [b0_3]]) (par := [M])
        exact ⟨rfl, hev⟩
end Go.Proofs.Ytjcikgeffhghkaa
