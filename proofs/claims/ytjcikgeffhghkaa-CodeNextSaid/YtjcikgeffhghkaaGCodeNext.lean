/- Walks, printed by program: each function returns what the partial function of the same name returns. Conditions: those of each theorem. -/
import Derived.Test.YtjcikgeffhghkaaGT
import Derived.Test.YtjcikgeffhghkaaGcode
import Derived.Test.YtjcikgeffhghkaaGgen
import Derived.Test.YtjcikgeffhghkaaGlaw12
set_option linter.unusedVariables false
set_option maxRecDepth 4000
namespace Go.Proofs.Ytjcikgeffhghkaa
open Go Go.V Go.Proofs
def law12_CodeNext_L14 (x6 : Int × Int × Int) (x8 : Int × Int) (s : Int) : Option (Step Int (Bool ⊕ Unit)) :=
match s with
| x_s10 =>
(if (decide (x_s10 < (if 4096 < (IntKind.i64.wrap (x8.1 + 300)) then 4096 else (IntKind.i64.wrap (x8.1 + 300))))) = true then
((code_Is x_s10 x6.1 x6.2.1).bind fun x15 =>
(if x15 = true then
some (.done (.inl false))
else
some (.next (IntKind.i64.wrap (x_s10 + 1)))))
else
some (.done (.inr ())))

def law12_CodeNext_L25 (x6 : Int × Int × Int) (x8 : Int × Int) (s : Int) : Option (Step Int (Bool ⊕ Unit)) :=
match s with
| x_s10 =>
(if (decide (x_s10 < (if 4096 < (IntKind.i64.wrap (x8.1 + 300)) then 4096 else (IntKind.i64.wrap (x8.1 + 300))))) = true then
((code_Is x_s10 x6.1 x6.2.1).bind fun x26 =>
(if x26 = true then
some (.done (.inl false))
else
some (.next (IntKind.i64.wrap (x_s10 + 1)))))
else
some (.done (.inr ())))

def law12_CodeNext_L38 (x6 : Int × Int × Int) (x10 : Int × Int) (s : Int) : Option (Step Int (Bool ⊕ Unit)) :=
match s with
| x_s10 =>
(if (decide (x_s10 < x10.1)) = true then
((code_Is x_s10 x6.1 x6.2.1).bind fun x39 =>
(if x39 = true then
some (.done (.inl false))
else
some (.next (IntKind.i64.wrap (x_s10 + 1)))))
else
some (.done (.inr ())))

def law12_CodeNext_L49 (x6 : Int × Int × Int) (x10 : Int × Int) (s : Int) : Option (Step Int (Bool ⊕ Unit)) :=
match s with
| x_s10 =>
(if (decide (x_s10 < x10.1)) = true then
((code_Is x_s10 x6.1 x6.2.1).bind fun x50 =>
(if x50 = true then
some (.done (.inl false))
else
some (.next (IntKind.i64.wrap (x_s10 + 1)))))
else
some (.done (.inr ())))

def law12_CodeNext (v_t_0 : List Int) : Option Bool :=
((gen_New v_t_0).bind fun x2 =>
((law12_form x2.1 x2.2).bind fun x6 =>
((gen_Maker_Next x2.1 x6.2.2 4200).bind fun x8 =>
((code_Next x8.1 x6.1 x6.2.1).bind fun x10 =>
(if (x10.2 != 0) = true then
(if (x10.2 == 0) = true then
(if (decide (x10.1 < x8.1)) = true then
some false
else
((code_Is x10.1 x6.1 x6.2.1).bind fun x12 =>
(if (!x12) = true then
some false
else
((loop (law12_CodeNext_L14 x6 x8) x8.1).bind fun d => match d with
| (.inl t2__x2) => some t2__x2
| (.inr _) => ((gen_Maker_Next x2.1 x8.2 100).bind fun x17 =>
((code_Next (IntKind.i64.wrap (x8.1 + x17.1)) x6.1 x6.2.1).bind fun x19 =>
(if (x19.2 != 0) = true then
((law12_sane).bind fun x21 =>
some x21)
else
(if (x10.2 == 0) = true then
(if (decide (x10.1 ≤ x19.1)) = true then
((law12_sane).bind fun x23 =>
some x23)
else
some false)
else
some false))))))))
else
((loop (law12_CodeNext_L25 x6 x8) x8.1).bind fun d => match d with
| (.inl t2__x2) => some t2__x2
| (.inr _) => ((gen_Maker_Next x2.1 x8.2 100).bind fun x28 =>
((code_Next (IntKind.i64.wrap (x8.1 + x28.1)) x6.1 x6.2.1).bind fun x30 =>
(if (x30.2 != 0) = true then
((law12_sane).bind fun x32 =>
some x32)
else
(if (x10.2 == 0) = true then
(if (decide (x10.1 ≤ x30.1)) = true then
((law12_sane).bind fun x34 =>
some x34)
else
some false)
else
some false))))))
else
(if (x10.2 == 0) = true then
(if (decide (x10.1 < x8.1)) = true then
some false
else
((code_Is x10.1 x6.1 x6.2.1).bind fun x36 =>
(if (!x36) = true then
some false
else
((loop (law12_CodeNext_L38 x6 x10) x8.1).bind fun d => match d with
| (.inl t2__x2) => some t2__x2
| (.inr _) => ((gen_Maker_Next x2.1 x8.2 100).bind fun x41 =>
((code_Next (IntKind.i64.wrap (x8.1 + x41.1)) x6.1 x6.2.1).bind fun x43 =>
(if (x43.2 != 0) = true then
((law12_sane).bind fun x45 =>
some x45)
else
(if (x10.2 == 0) = true then
(if (decide (x10.1 ≤ x43.1)) = true then
((law12_sane).bind fun x47 =>
some x47)
else
some false)
else
some false))))))))
else
((loop (law12_CodeNext_L49 x6 x10) x8.1).bind fun d => match d with
| (.inl t2__x2) => some t2__x2
| (.inr _) => ((gen_Maker_Next x2.1 x8.2 100).bind fun x52 =>
((code_Next (IntKind.i64.wrap (x8.1 + x52.1)) x6.1 x6.2.1).bind fun x54 =>
(if (x54.2 != 0) = true then
((law12_sane).bind fun x56 =>
some x56)
else
(if (x10.2 == 0) = true then
(if (decide (x10.1 ≤ x54.1)) = true then
((law12_sane).bind fun x58 =>
some x58)
else
some false)
else
some false)))))))))))

theorem law12_CodeNext_w (a_v_t_0 : Option Addr) (c_v_t_0 : Nat) (v_t_0 : List Int) (r : Bool) (w : World) (M : List Nat) (hms : MS w [M]) (hs_v_t_0 : SlR (eInt .i64) w (fl [M]) a_v_t_0 c_v_t_0 v_t_0) (h : law12_CodeNext v_t_0 = some r) : CallVC Try.prog 3 [.slice a_v_t_0 (v_t_0).length c_v_t_0] w fun v w' => v = .bool r ∧ Ev [] w w' := by
  refine calls_vc hmx Try.func3 (by kernel_rfl) rfl (rs := [.tmp 2]) rfl (by kernel_rfl) (args := [.slice a_v_t_0 (v_t_0).length c_v_t_0]) rfl ?_
  have hev : Ev [] w w := Ev.refl _ _
  have hfr : FR w.heap.size [] := FR.nil _
  refine c_seq ?_
  refine c_plain ?_
  refine x_pure 1 [(2, .bool false)] _ _ _ (by kernel_rfl) ?_
  refine x_end rfl ?_
  refine k_then ?_
  refine c_norm [(0, .slice a_v_t_0 (v_t_0).length c_v_t_0)] ⟨rfl, trivial⟩ (fun J => ?_)
  refine c_seq ?_
  refine c_plain ?_
  refine x_pure 1 [(14, .slice a_v_t_0 (v_t_0).length c_v_t_0)] _ _ _ (by kernel_rfl) ?_
  obtain ⟨x2, hx, h⟩ := bind_some h
  have hpk := hms.pick [some 0] [M] rfl
  have hsb : ∀ x ∈ fl [(fl [M])], x ∈ fl [M] := fun x hx => pick_sub [some 0] [M] rfl x hx
  have hcall := gen_New_w a_v_t_0 c_v_t_0 v_t_0 _ w (fl [M]) (hpk.all) (hs_v_t_0.sub hsb) hx
  refine x_call 9 #[] #[] [.slice a_v_t_0 (v_t_0).length c_v_t_0] _ rfl rfl rfl rfl hcall ?_
  rintro v w3 ⟨b0_3, a1_3, c1_3, rfl, he3, hmn3, hfn3, hf3_1, hf3_2⟩
  clear hcall hx
  refine ⟨.inl rfl, ?_⟩
  have hst : Stp (fl [M]) w (fl [[b0_3], M]) w3 := Stp.join (res := [[b0_3]]) he3 (fun _ h => by cases h) hfn3
  replace hs_v_t_0 := hs_v_t_0.step hst
  replace hms : MS w3 [[b0_3], M] := hms.join he3 hmn3 hfn3
  replace hfr : FR w.heap.size [[b0_3]] := hfr.join hfn3 hev.size
  replace hev := hev.ext he3
  have hsp : ∀ x ∈ fl [[b0_3], M], x ∈ fl [[b0_3], (fl [M])] := fl_app [[b0_3]] (fun x hx => pick_sup [some 0] [M] rfl rfl x hx)
  replace hf3_2 := hf3_2.sub hsp
  refine x_pure 1 [(3, .pointer (some ⟨b0_3, 0, none⟩))] _ _ _ (by kernel_rfl) ?_
  refine x_end rfl ?_
  refine k_then ?_
  refine c_norm [(3, .pointer (some ⟨b0_3, 0, none⟩))] ⟨rfl, trivial⟩ (fun J => ?_)
  refine c_seq ?_
  refine c_plain ?_
  refine x_pure 1 [(17, .pointer (some ⟨b0_3, 0, none⟩))] _ _ _ (by kernel_rfl) ?_
  obtain ⟨x6, hx, h⟩ := bind_some h
  have hpk := hms.pick [some 0, some 1] [[b0_3], M] rfl
  have hsb : ∀ x ∈ fl [[b0_3], (fl [M])], x ∈ fl [[b0_3], M] := fun x hx => pick_sub [some 0, some 1] [[b0_3], M] rfl x (focus_sub (ls := [[b0_3], M]) 0 rfl x hx)
  have hcall := law12_form_w b0_3 a1_3 c1_3 x2.1 x2.2 _ w3 (fl [M]) (hpk.focus 0 rfl) (hf3_2.sub hsb) hf3_1 hx
  refine x_call 10 #[] #[] [.pointer (some ⟨b0_3, 0, none⟩)] _ rfl rfl rfl rfl hcall ?_
  rintro v w7 ⟨rfl, he7, hbn7⟩
  clear hcall hx
  refine ⟨.inl rfl, ?_⟩
  have hst := Stp.ev' (ls := [[b0_3], M]) he7 (mem_flat 0 rfl)
  replace hf3_2 := hf3_2.step hst
  replace hms := hms.ev he7
  replace hev := hev.then he7 (fun b hb => .inr (hfr.at 0 rfl b hb))
  replace hf3_1 := hbn7
  refine x_pure 5 [(16, .tuple #[.int .i64 x6.1, .int .i64 x6.2.1]), (19, .int .i64 x6.1), (20, .int .i64 x6.2.1), (4, .int .i64 x6.1), (5, .int .i64 x6.2.1)] _ _ _ (by kernel_rfl) ?_
  refine x_end rfl ?_
  refine k_then ?_
  refine c_norm [(3, .pointer (some ⟨b0_3, 0, none⟩)), (4, .int .i64 x6.1), (5, .int .i64 x6.2.1)] ⟨rfl, rfl, rfl, trivial⟩ (fun J => ?_)
  refine c_seq ?_
  refine c_plain ?_
  refine x_pure 1 [(21, .pointer (some ⟨b0_3, 0, none⟩))] _ _ _ (by kernel_rfl) ?_
  obtain ⟨x8, hx, h⟩ := bind_some h
  have hpk := hms.pick [some 0, some 1] [[b0_3], M] rfl
  have hsb : ∀ x ∈ fl [[b0_3], (fl [M])], x ∈ fl [[b0_3], M] := fun x hx => pick_sub [some 0, some 1] [[b0_3], M] rfl x (focus_sub (ls := [[b0_3], M]) 0 rfl x hx)
  have hcall := gen_Maker_Next_w b0_3 a1_3 c1_3 x2.1 x6.2.2 4200 _ w7 (fl [M]) (hpk.focus 0 rfl) (hf3_2.sub hsb) hf3_1 hx
  refine x_call 11 #[] #[] [.pointer (some ⟨b0_3, 0, none⟩), .int .i64 4200] _ rfl rfl rfl rfl hcall ?_
  rintro v w9 ⟨rfl, he9, hbn9⟩
  clear hcall hx
  refine ⟨.inl rfl, ?_⟩
  have hst := Stp.ev' (ls := [[b0_3], M]) he9 (mem_flat 0 rfl)
  replace hf3_2 := hf3_2.step hst
  replace hms := hms.ev he9
  replace hev := hev.then he9 (fun b hb => .inr (hfr.at 0 rfl b hb))
  replace hf3_1 := hbn9
  refine x_pure 1 [(6, .int .i64 x8.1)] _ _ _ (by kernel_rfl) ?_
  refine x_end rfl ?_
  refine k_then ?_
  refine c_norm [(3, .pointer (some ⟨b0_3, 0, none⟩)), (4, .int .i64 x6.1), (5, .int .i64 x6.2.1), (6, .int .i64 x8.1)] ⟨rfl, rfl, rfl, rfl, trivial⟩ (fun J => ?_)
  refine c_seq ?_
  refine c_plain ?_
  refine x_pure 3 [(24, .int .i64 x8.1), (25, .int .i64 x6.1), (26, .int .i64 x6.2.1)] _ _ _ (by kernel_rfl) ?_
  obtain ⟨x10, hx, h⟩ := bind_some h
  have hcall := code_Next_w x8.1 x6.1 x6.2.1 _ w9 hx
  refine x_call 12 #[] #[] [.int .i64 x8.1, .int .i64 x6.1, .int .i64 x6.2.1] _ rfl rfl rfl rfl hcall ?_
  rintro v w11 ⟨rfl, he11⟩
  clear hcall hx
  refine ⟨.inl rfl, ?_⟩
  have hst := Stp.ext (ls := [[b0_3], M]) he11
  replace hf3_1 := he11.box hf3_1 (fun h => by cases h)
  replace hf3_2 := hf3_2.step hst
  replace hms := hms.ev he11
  replace hev := hev.ext he11
  refine x_pure 5 [(23, .tuple #[.int .i64 x10.1, .int .i64 x10.2]), (28, .int .i64 x10.1), (29, .int .i64 x10.2), (7, .int .i64 x10.1), (8, .int .i64 x10.2)] _ _ _ (by kernel_rfl) ?_
  refine x_end rfl ?_
  refine k_then ?_
  refine c_norm [(3, .pointer (some ⟨b0_3, 0, none⟩)), (4, .int .i64 x6.1), (5, .int .i64 x6.2.1), (6, .int .i64 x8.1), (7, .int .i64 x10.1), (8, .int .i64 x10.2)] ⟨rfl, rfl, rfl, rfl, rfl, rfl, trivial⟩ (fun J => ?_)
  refine c_seq ?_
  refine c_plain ?_
  refine x_pure 2 [(30, .int .i64 x10.1), (9, .int .i64 x10.1)] _ _ _ (by kernel_rfl) ?_
  refine x_end rfl ?_
  refine k_then ?_
  refine c_norm [(3, .pointer (some ⟨b0_3, 0, none⟩)), (4, .int .i64 x6.1), (5, .int .i64 x6.2.1), (6, .int .i64 x8.1), (7, .int .i64 x10.1), (8, .int .i64 x10.2), (9, .int .i64 x10.1)] ⟨rfl, rfl, rfl, rfl, rfl, rfl, rfl, trivial⟩ (fun J => ?_)
  refine c_seq ?_
  refine c_seq ?_
  refine c_plain ?_
  refine x_pure 2 [(31, .int .i64 x10.2), (32, .bool (x10.2 != 0))] _ _ _ (by kernel_rfl) ?_
  refine x_end rfl ?_
  refine k_then ?_
  refine c_norm [(3, .pointer (some ⟨b0_3, 0, none⟩)), (4, .int .i64 x6.1), (5, .int .i64 x6.2.1), (6, .int .i64 x8.1), (7, .int .i64 x10.1), (8, .int .i64 x10.2), (9, .int .i64 x10.1), (32, .bool (x10.2 != 0))] ⟨rfl, rfl, rfl, rfl, rfl, rfl, rfl, rfl, trivial⟩ (fun J => ?_)
  refine c_cond (x10.2 != 0) rfl (fun hb => ?_) (fun hb => ?_)
  · replace h := ite_t hb h
    refine c_plain ?_
    refine x_pure 2 [(33, .int .i64 x8.1), (34, .int .i64 (IntKind.i64.wrap (x8.1 + 300)))] _ _ _ (by kernel_rfl) ?_
    refine x_min (vs := [.int .i64 (IntKind.i64.wrap (x8.1 + 300)), .int .i64 4096]) (.int .i64 (if 4096 < (IntKind.i64.wrap (x8.1 + 300)) then 4096 else (IntKind.i64.wrap (x8.1 + 300)))) rfl rfl rfl (fun _ _ => rfl) ?_
    refine x_pure 1 [(9, .int .i64 (if 4096 < (IntKind.i64.wrap (x8.1 + 300)) then 4096 else (IntKind.i64.wrap (x8.1 + 300))))] _ _ _ (by kernel_rfl) ?_
    refine x_end rfl ?_
    refine k_then ?_
    refine c_norm [(3, .pointer (some ⟨b0_3, 0, none⟩)), (4, .int .i64 x6.1), (5, .int .i64 x6.2.1), (6, .int .i64 x8.1), (7, .int .i64 x10.1), (8, .int .i64 x10.2), (9, .int .i64 (if 4096 < (IntKind.i64.wrap (x8.1 + 300)) then 4096 else (IntKind.i64.wrap (x8.1 + 300))))] ⟨rfl, rfl, rfl, rfl, rfl, rfl, rfl, trivial⟩ (fun J => ?_)
    refine c_seq ?_
    refine c_seq ?_
    refine c_plain ?_
    refine x_pure 3 [(36, .int .i64 x10.2), (37, .bool (x10.2 == 0)), (38, .bool (x10.2 == 0))] _ _ _ (by kernel_rfl) ?_
    refine x_split 38 (x10.2 == 0) rfl (fun hb => ?_) (fun hb => ?_)
    · replace h := ite_t hb h
      refine x_pure 4 [(39, .int .i64 x10.1), (40, .int .i64 x8.1), (41, .bool (decide (x10.1 < x8.1))), (42, .bool (decide (x10.1 < x8.1)))] _ _ _ (by kernel_rfl) ?_
      refine x_split 42 (decide (x10.1 < x8.1)) rfl (fun hb => ?_) (fun hb => ?_)
      · replace h := ite_t hb h
        refine x_pure 7 [(43, undef), (44, undef), (45, undef), (46, undef), (47, undef), (48, .bool true), (49, .bool true)] _ _ _ (by kernel_rfl) ?_
        refine x_end rfl ?_
        refine k_then ?_
        refine c_norm [(3, .pointer (some ⟨b0_3, 0, none⟩)), (4, .int .i64 x6.1), (5, .int .i64 x6.2.1), (6, .int .i64 x8.1), (7, .int .i64 x10.1), (8, .int .i64 x10.2), (9, .int .i64 (if 4096 < (IntKind.i64.wrap (x8.1 + 300)) then 4096 else (IntKind.i64.wrap (x8.1 + 300)))), (49, .bool true)] ⟨rfl, rfl, rfl, rfl, rfl, rfl, rfl, rfl, trivial⟩ (fun J => ?_)
        refine c_true rfl ?_
        refine c_seq ?_
        refine c_plain ?_
        refine x_pure 1 [(2, .bool false)] _ _ _ (by kernel_rfl) ?_
        refine x_end rfl ?_
        refine k_then ?_
        refine c_norm [(2, .bool false)] ⟨rfl, trivial⟩ (fun J => ?_)
        refine c_ret ?_
        refine k_then_ret ?_
        refine r_ret (r_one (.bool false) rfl ?_)
        have hx := some_inj h
        subst hx
        have hsu : ∀ x ∈ fl [M], x ∈ fl [[b0_3], M] := fl_right (loc := [[b0_3]]) (par := [M])
        exact ⟨rfl, hev⟩
      · replace h := ite_f hb h
        refine x_pure 3 [(43, .int .i64 x10.1), (44, .int .i64 x6.1), (45, .int .i64 x6.2.1)] _ _ _ (by kernel_rfl) ?_
        obtain ⟨x12, hx, h⟩ := bind_some h
        have hcall := code_Is_w x10.1 x6.1 x6.2.1 _ w11 hx
        refine x_call 13 #[] #[] [.int .i64 x10.1, .int .i64 x6.1, .int .i64 x6.2.1] _ rfl rfl rfl rfl hcall ?_
        rintro v w13 ⟨rfl, he13⟩
        clear hcall hx
        refine ⟨.inl rfl, ?_⟩
        have hst := Stp.ext (ls := [[b0_3], M]) he13
        replace hf3_1 := he13.box hf3_1 (fun h => by cases h)
        replace hf3_2 := hf3_2.step hst
        replace hms := hms.ev he13
        replace hev := hev.ext he13
        refine x_pure 3 [(47, .bool (!x12)), (48, .bool (!x12)), (49, .bool (!x12))] _ _ _ (by kernel_rfl) ?_
        refine x_end rfl ?_
        refine k_then ?_
        refine c_norm [(3, .pointer (some ⟨b0_3, 0, none⟩)), (4, .int .i64 x6.1), (5, .int .i64 x6.2.1), (6, .int .i64 x8.1), (7, .int .i64 x10.1), (8, .int .i64 x10.2), (9, .int .i64 (if 4096 < (IntKind.i64.wrap (x8.1 + 300)) then 4096 else (IntKind.i64.wrap (x8.1 + 300)))), (49, .bool (!x12))] ⟨rfl, rfl, rfl, rfl, rfl, rfl, rfl, rfl, trivial⟩ (fun J => ?_)
        refine c_cond (!x12) rfl (fun hb => ?_) (fun hb => ?_)
        · replace h := ite_t hb h
          refine c_seq ?_
          refine c_plain ?_
          refine x_pure 1 [(2, .bool false)] _ _ _ (by kernel_rfl) ?_
          refine x_end rfl ?_
          refine k_then ?_
          refine c_norm [(2, .bool false)] ⟨rfl, trivial⟩ (fun J => ?_)
          refine c_ret ?_
          refine k_then_ret ?_
          refine r_ret (r_one (.bool false) rfl ?_)
          have hx := some_inj h
          subst hx
          have hsu : ∀ x ∈ fl [M], x ∈ fl [[b0_3], M] := fl_right (loc := [[b0_3]]) (par := [M])
          exact ⟨rfl, hev⟩
        · replace h := ite_f hb h
          refine c_skip ?_
          refine k_then ?_
          refine c_norm [(3, .pointer (some ⟨b0_3, 0, none⟩)), (4, .int .i64 x6.1), (5, .int .i64 x6.2.1), (6, .int .i64 x8.1), (7, .int .i64 x10.1), (8, .int .i64 x10.2), (9, .int .i64 (if 4096 < (IntKind.i64.wrap (x8.1 + 300)) then 4096 else (IntKind.i64.wrap (x8.1 + 300))))] ⟨rfl, rfl, rfl, rfl, rfl, rfl, rfl, trivial⟩ (fun J => ?_)
          refine c_seq ?_
          refine c_seq ?_
          refine c_plain ?_
          refine x_pure 2 [(50, .int .i64 x8.1), (10, .int .i64 x8.1)] _ _ _ (by kernel_rfl) ?_
          refine x_end rfl ?_
          refine k_then ?_
          refine c_norm [(3, .pointer (some ⟨b0_3, 0, none⟩)), (4, .int .i64 x6.1), (5, .int .i64 x6.2.1), (6, .int .i64 x8.1), (7, .int .i64 x10.1), (8, .int .i64 x10.2), (9, .int .i64 (if 4096 < (IntKind.i64.wrap (x8.1 + 300)) then 4096 else (IntKind.i64.wrap (x8.1 + 300)))), (10, .int .i64 x8.1)] ⟨rfl, rfl, rfl, rfl, rfl, rfl, rfl, rfl, trivial⟩ (fun J => ?_)
          refine c_block ?_
          obtain ⟨d14, hd14, h14⟩ := bind_some h
          obtain ⟨m14, hd14⟩ := loop_some hd14
          refine c_loop (loop_rule hmx (σ := Nat × Int) (fun s => match s with | (_, x_s10) => [(3, .pointer (some ⟨b0_3, 0, none⟩)), (4, .int .i64 x6.1), (5, .int .i64 x6.2.1), (6, .int .i64 x8.1), (7, .int .i64 x10.1), (8, .int .i64 x10.2), (9, .int .i64 (if 4096 < (IntKind.i64.wrap (x8.1 + 300)) then 4096 else (IntKind.i64.wrap (x8.1 + 300)))), (10, .int .i64 x_s10)]) (fun s w' => match s with | (m, x_s10) => loopN (law12_CodeNext_L14 x6 x8) m x_s10 = some d14 ∧ Ev [] w w' ∧ MS w' [[b0_3], M] ∧ FR w.heap.size [[b0_3]] ∧ w'.heap[b0_3]? = some (.cells #[.slice a1_3 (x2.1).length c1_3, .int .i64 x8.2] 41 (0, 0)) ∧ SlR (eInt .i64) w' (fl [[b0_3], M]) a1_3 c1_3 x2.1) (fun s => s.1) (m14, x8.1) ⟨rfl, rfl, rfl, rfl, rfl, rfl, rfl, rfl, trivial⟩ ⟨hd14, hev, hms, hfr, hf3_1, hf3_2⟩ ?_)
          rintro ⟨m14, x_s10⟩ J w14 ⟨hn14, hev, hms, hfr, hf3_1, hf3_2⟩
          rcases m14 with _ | m14
          · exact (loopN_zero hn14).elim
          obtain ⟨t14, h, hn14⟩ := bind_some hn14
          refine c_seq ?_
          refine c_seq ?_
          refine c_plain ?_
          refine x_pure 3 [(51, .int .i64 x_s10), (52, .int .i64 (if 4096 < (IntKind.i64.wrap (x8.1 + 300)) then 4096 else (IntKind.i64.wrap (x8.1 + 300)))), (53, .bool (decide (x_s10 < (if 4096 < (IntKind.i64.wrap (x8.1 + 300)) then 4096 else (IntKind.i64.wrap (x8.1 + 300))))))] _ _ _ (by kernel_rfl) ?_
          refine x_end rfl ?_
          refine k_then ?_
          refine c_norm [(3, .pointer (some ⟨b0_3, 0, none⟩)), (4, .int .i64 x6.1), (5, .int .i64 x6.2.1), (6, .int .i64 x8.1), (7, .int .i64 x10.1), (8, .int .i64 x10.2), (9, .int .i64 (if 4096 < (IntKind.i64.wrap (x8.1 + 300)) then 4096 else (IntKind.i64.wrap (x8.1 + 300)))), (10, .int .i64 x_s10), (53, .bool (decide (x_s10 < (if 4096 < (IntKind.i64.wrap (x8.1 + 300)) then 4096 else (IntKind.i64.wrap (x8.1 + 300))))))] ⟨rfl, rfl, rfl, rfl, rfl, rfl, rfl, rfl, rfl, trivial⟩ (fun J => ?_)
          refine c_cond (decide (x_s10 < (if 4096 < (IntKind.i64.wrap (x8.1 + 300)) then 4096 else (IntKind.i64.wrap (x8.1 + 300))))) rfl (fun hb => ?_) (fun hb => ?_)
          · replace h := ite_t hb h
            refine c_skip ?_
            refine k_then ?_
            refine c_norm [(3, .pointer (some ⟨b0_3, 0, none⟩)), (4, .int .i64 x6.1), (5, .int .i64 x6.2.1), (6, .int .i64 x8.1), (7, .int .i64 x10.1), (8, .int .i64 x10.2), (9, .int .i64 (if 4096 < (IntKind.i64.wrap (x8.1 + 300)) then 4096 else (IntKind.i64.wrap (x8.1 + 300)))), (10, .int .i64 x_s10)] ⟨rfl, rfl, rfl, rfl, rfl, rfl, rfl, rfl, trivial⟩ (fun J => ?_)
            refine c_seq ?_
            refine c_block ?_
            refine c_seq ?_
            refine c_plain ?_
            refine x_pure 3 [(56, .int .i64 x_s10), (57, .int .i64 x6.1), (58, .int .i64 x6.2.1)] _ _ _ (by kernel_rfl) ?_
            obtain ⟨x15, hx, h⟩ := bind_some h
            have hcall := code_Is_w x_s10 x6.1 x6.2.1 _ w14 hx
            refine x_call 13 #[] #[] [.int .i64 x_s10, .int .i64 x6.1, .int .i64 x6.2.1] _ rfl rfl rfl rfl hcall ?_
            rintro v w16 ⟨rfl, he16⟩
            clear hcall hx
            refine ⟨.inl rfl, ?_⟩
            have hst := Stp.ext (ls := [[b0_3], M]) he16
            replace hf3_1 := he16.box hf3_1 (fun h => by cases h)
            replace hf3_2 := hf3_2.step hst
            replace hms := hms.ev he16
            replace hev := hev.ext he16
            refine x_end rfl ?_
            refine k_then ?_
            refine c_norm [(3, .pointer (some ⟨b0_3, 0, none⟩)), (4, .int .i64 x6.1), (5, .int .i64 x6.2.1), (6, .int .i64 x8.1), (7, .int .i64 x10.1), (8, .int .i64 x10.2), (9, .int .i64 (if 4096 < (IntKind.i64.wrap (x8.1 + 300)) then 4096 else (IntKind.i64.wrap (x8.1 + 300)))), (10, .int .i64 x_s10), (59, .bool x15)] ⟨rfl, rfl, rfl, rfl, rfl, rfl, rfl, rfl, rfl, trivial⟩ (fun J => ?_)
            refine c_cond x15 rfl (fun hb => ?_) (fun hb => ?_)
            · replace h := ite_t hb h
              refine c_seq ?_
              refine c_plain ?_
              refine x_pure 1 [(2, .bool false)] _ _ _ (by kernel_rfl) ?_
              refine x_end rfl ?_
              refine k_then ?_
              refine c_norm [(2, .bool false)] ⟨rfl, trivial⟩ (fun J => ?_)
              refine c_ret ?_
              refine k_block_ret ?_
              refine k_then_ret ?_
              have hx := some_inj h
              subst hx
              have hy := some_inj hn14
              subst hy
              replace h := h14
              refine k_then_ret ?_
              refine k_block_ret ?_
              refine k_then_ret ?_
              refine r_ret (r_one (.bool false) rfl ?_)
              have hx := some_inj h
              subst hx
              have hsu : ∀ x ∈ fl [M], x ∈ fl [[b0_3], M] := fl_right (loc := [[b0_3]]) (par := [M])
              exact ⟨rfl, hev⟩
            · replace h := ite_f hb h
              refine c_skip ?_
              refine k_block ?_
              refine k_then ?_
              refine c_norm [(3, .pointer (some ⟨b0_3, 0, none⟩)), (4, .int .i64 x6.1), (5, .int .i64 x6.2.1), (6, .int .i64 x8.1), (7, .int .i64 x10.1), (8, .int .i64 x10.2), (9, .int .i64 (if 4096 < (IntKind.i64.wrap (x8.1 + 300)) then 4096 else (IntKind.i64.wrap (x8.1 + 300)))), (10, .int .i64 x_s10)] ⟨rfl, rfl, rfl, rfl, rfl, rfl, rfl, rfl, trivial⟩ (fun J => ?_)
              refine c_plain ?_
              refine x_pure 3 [(54, .int .i64 x_s10), (55, .int .i64 (IntKind.i64.wrap (x_s10 + 1))), (10, .int .i64 (IntKind.i64.wrap (x_s10 + 1)))] _ _ _ (by kernel_rfl) ?_
              refine x_end rfl ?_
              have hx := some_inj h
              subst hx
              exact k_then ⟨(m14, IntKind.i64.wrap (x_s10 + 1)), ⟨rfl, rfl, rfl, rfl, rfl, rfl, rfl, rfl, trivial⟩, ⟨hn14, hev, hms, hfr, hf3_1, hf3_2⟩, Nat.lt_succ_self _⟩
          · replace h := ite_f hb h
            refine c_exit ?_
            refine k_then_exit ?_
            have hx := some_inj h
            subst hx
            have hy := some_inj hn14
            subst hy
            replace h := h14
            refine k_then_exit ?_
            refine k_block_in ?_
            refine k_then ?_
            refine c_norm [(3, .pointer (some ⟨b0_3, 0, none⟩)), (4, .int .i64 x6.1), (5, .int .i64 x6.2.1), (6, .int .i64 x8.1), (7, .int .i64 x10.1), (8, .int .i64 x10.2)] ⟨rfl, rfl, rfl, rfl, rfl, rfl, trivial⟩ (fun J => ?_)
            refine c_seq ?_
            refine c_plain ?_
            refine x_pure 2 [(60, .int .i64 x8.1), (61, .pointer (some ⟨b0_3, 0, none⟩))] _ _ _ (by kernel_rfl) ?_
            obtain ⟨x17, hx, h⟩ := bind_some h
            have hpk := hms.pick [some 0, some 1] [[b0_3], M] rfl
            have hsb : ∀ x ∈ fl [[b0_3], (fl [M])], x ∈ fl [[b0_3], M] := fun x hx => pick_sub [some 0, some 1] [[b0_3], M] rfl x (focus_sub (ls := [[b0_3], M]) 0 rfl x hx)
            have hcall := gen_Maker_Next_w b0_3 a1_3 c1_3 x2.1 x8.2 100 _ w14 (fl [M]) (hpk.focus 0 rfl) (hf3_2.sub hsb) hf3_1 hx
            refine x_call 11 #[] #[] [.pointer (some ⟨b0_3, 0, none⟩), .int .i64 100] _ rfl rfl rfl rfl hcall ?_
            rintro v w18 ⟨rfl, he18, hbn18⟩
            clear hcall hx
            refine ⟨.inl rfl, ?_⟩
            have hst := Stp.ev' (ls := [[b0_3], M]) he18 (mem_flat 0 rfl)
            replace hf3_2 := hf3_2.step hst
            replace hms := hms.ev he18
            replace hev := hev.then he18 (fun b hb => .inr (hfr.at 0 rfl b hb))
            replace hf3_1 := hbn18
            refine x_pure 2 [(63, .int .i64 (IntKind.i64.wrap (x8.1 + x17.1))), (11, .int .i64 (IntKind.i64.wrap (x8.1 + x17.1)))] _ _ _ (by kernel_rfl) ?_
            refine x_end rfl ?_
            refine k_then ?_
            refine c_norm [(4, .int .i64 x6.1), (5, .int .i64 x6.2.1), (7, .int .i64 x10.1), (8, .int .i64 x10.2), (11, .int .i64 (IntKind.i64.wrap (x8.1 + x17.1)))] ⟨rfl, rfl, rfl, rfl, rfl, trivial⟩ (fun J => ?_)
            refine c_seq ?_
            refine c_plain ?_
            refine x_pure 3 [(65, .int .i64 (IntKind.i64.wrap (x8.1 + x17.1))), (66, .int .i64 x6.1), (67, .int .i64 x6.2.1)] _ _ _ (by kernel_rfl) ?_
            obtain ⟨x19, hx, h⟩ := bind_some h
            have hcall := code_Next_w (IntKind.i64.wrap (x8.1 + x17.1)) x6.1 x6.2.1 _ w18 hx
            refine x_call 12 #[] #[] [.int .i64 (IntKind.i64.wrap (x8.1 + x17.1)), .int .i64 x6.1, .int .i64 x6.2.1] _ rfl rfl rfl rfl hcall ?_
            rintro v w20 ⟨rfl, he20⟩
            clear hcall hx
            refine ⟨.inl rfl, ?_⟩
            have hst := Stp.ext (ls := [[b0_3], M]) he20
            replace hf3_1 := he20.box hf3_1 (fun h => by cases h)
            replace hf3_2 := hf3_2.step hst
            replace hms := hms.ev he20
            replace hev := hev.ext he20
            refine x_pure 5 [(64, .tuple #[.int .i64 x19.1, .int .i64 x19.2]), (69, .int .i64 x19.1), (70, .int .i64 x19.2), (12, .int .i64 x19.1), (13, .int .i64 x19.2)] _ _ _ (by kernel_rfl) ?_
            refine x_end rfl ?_
            refine k_then ?_
            refine c_norm [(7, .int .i64 x10.1), (8, .int .i64 x10.2), (12, .int .i64 x19.1), (13, .int .i64 x19.2)] ⟨rfl, rfl, rfl, rfl, trivial⟩ (fun J => ?_)
            refine c_seq ?_
            refine c_plain ?_
            refine x_pure 3 [(71, .int .i64 x19.2), (72, .bool (x19.2 != 0)), (73, .bool (x19.2 != 0))] _ _ _ (by kernel_rfl) ?_
            refine x_split 73 (x19.2 != 0) rfl (fun hb => ?_) (fun hb => ?_)
            · replace h := ite_t hb h
              refine x_pure 9 [(74, undef), (75, undef), (76, undef), (77, undef), (78, undef), (79, undef), (80, undef), (81, .bool true), (82, .bool true)] _ _ _ (by kernel_rfl) ?_
              obtain ⟨x21, hx, h⟩ := bind_some h
              have hcall := law12_sane_w _ w20 hx
              refine x_call 14 #[] #[] [] _ rfl rfl rfl rfl hcall ?_
              rintro v w22 ⟨rfl, he22⟩
              clear hcall hx
              refine ⟨.inl rfl, ?_⟩
              have hst := Stp.ext (ls := [[b0_3], M]) he22
              replace hf3_1 := he22.box hf3_1 (fun h => by cases h)
              replace hf3_2 := hf3_2.step hst
              replace hms := hms.ev he22
              replace hev := hev.ext he22
              refine x_pure 2 [(84, .bool x21), (2, .bool x21)] _ _ _ (by kernel_rfl) ?_
              refine x_end rfl ?_
              refine k_then ?_
              refine c_norm [(2, .bool x21)] ⟨rfl, trivial⟩ (fun J => ?_)
              refine c_ret ?_
              refine r_ret (r_one (.bool x21) rfl ?_)
              have hx := some_inj h
              subst hx
              have hsu : ∀ x ∈ fl [M], x ∈ fl [[b0_3], M] := fl_right (loc := [[b0_3]]) (par := [M])
              exact ⟨rfl, hev⟩
            · replace h := ite_f hb h
              refine x_pure 3 [(74, .int .i64 x10.2), (75, .bool (x10.2 == 0)), (76, .bool (x10.2 == 0))] _ _ _ (by kernel_rfl) ?_
              refine x_split 76 (x10.2 == 0) rfl (fun hb => ?_) (fun hb => ?_)
              · replace h := ite_t hb h
                refine x_pure 6 [(77, .int .i64 x10.1), (78, .int .i64 x19.1), (79, .bool (decide (x10.1 ≤ x19.1))), (80, .bool (decide (x10.1 ≤ x19.1))), (81, .bool (decide (x10.1 ≤ x19.1))), (82, .bool (decide (x10.1 ≤ x19.1)))] _ _ _ (by kernel_rfl) ?_
                refine x_split 82 (decide (x10.1 ≤ x19.1)) rfl (fun hb => ?_) (fun hb => ?_)
                · replace h := ite_t hb h
                  obtain ⟨x23, hx, h⟩ := bind_some h
                  have hcall := law12_sane_w _ w20 hx
                  refine x_call 14 #[] #[] [] _ rfl rfl rfl rfl hcall ?_
                  rintro v w24 ⟨rfl, he24⟩
                  clear hcall hx
                  refine ⟨.inl rfl, ?_⟩
                  have hst := Stp.ext (ls := [[b0_3], M]) he24
                  replace hf3_1 := he24.box hf3_1 (fun h => by cases h)
                  replace hf3_2 := hf3_2.step hst
                  replace hms := hms.ev he24
                  replace hev := hev.ext he24
                  refine x_pure 2 [(84, .bool x23), (2, .bool x23)] _ _ _ (by kernel_rfl) ?_
                  refine x_end rfl ?_
                  refine k_then ?_
                  refine c_norm [(2, .bool x23)] ⟨rfl, trivial⟩ (fun J => ?_)
                  refine c_ret ?_
                  refine r_ret (r_one (.bool x23) rfl ?_)
                  have hx := some_inj h
                  subst hx
                  have hsu : ∀ x ∈ fl [M], x ∈ fl [[b0_3], M] := fl_right (loc := [[b0_3]]) (par := [M])
                  exact ⟨rfl, hev⟩
                · replace h := ite_f hb h
                  refine x_pure 3 [(83, undef), (84, .bool false), (2, .bool false)] _ _ _ (by kernel_rfl) ?_
                  refine x_end rfl ?_
                  refine k_then ?_
                  refine c_norm [(2, .bool false)] ⟨rfl, trivial⟩ (fun J => ?_)
                  refine c_ret ?_
                  refine r_ret (r_one (.bool false) rfl ?_)
                  have hx := some_inj h
                  subst hx
                  have hsu : ∀ x ∈ fl [M], x ∈ fl [[b0_3], M] := fl_right (loc := [[b0_3]]) (par := [M])
                  exact ⟨rfl, hev⟩
              · replace h := ite_f hb h
                refine x_pure 9 [(77, undef), (78, undef), (79, undef), (80, .bool false), (81, .bool false), (82, .bool false), (83, undef), (84, .bool false), (2, .bool false)] _ _ _ (by kernel_rfl) ?_
                refine x_end rfl ?_
                refine k_then ?_
                refine c_norm [(2, .bool false)] ⟨rfl, trivial⟩ (fun J => ?_)
                refine c_ret ?_
                refine r_ret (r_one (.bool false) rfl ?_)
                have hx := some_inj h
                subst hx
                have hsu : ∀ x ∈ fl [M], x ∈ fl [[b0_3], M] := fl_right (loc := [[b0_3]]) (par := [M])
                exact ⟨rfl, hev⟩
    · replace h := ite_f hb h
      refine x_pure 11 [(39, undef), (40, undef), (41, undef), (42, undef), (43, undef), (44, undef), (45, undef), (46, undef), (47, undef), (48, undef), (49, .bool false)] _ _ _ (by kernel_rfl) ?_
      refine x_end rfl ?_
      refine k_then ?_
      refine c_norm [(3, .pointer (some ⟨b0_3, 0, none⟩)), (4, .int .i64 x6.1), (5, .int .i64 x6.2.1), (6, .int .i64 x8.1), (7, .int .i64 x10.1), (8, .int .i64 x10.2), (9, .int .i64 (if 4096 < (IntKind.i64.wrap (x8.1 + 300)) then 4096 else (IntKind.i64.wrap (x8.1 + 300)))), (49, .bool false)] ⟨rfl, rfl, rfl, rfl, rfl, rfl, rfl, rfl, trivial⟩ (fun J => ?_)
      refine c_false rfl ?_
      refine c_skip ?_
      refine k_then ?_
      refine c_seq ?_
      refine c_seq ?_
      refine c_plain ?_
      refine x_pure 2 [(50, .int .i64 x8.1), (10, .int .i64 x8.1)] _ _ _ (by kernel_rfl) ?_
      refine x_end rfl ?_
      refine k_then ?_
      refine c_norm [(3, .pointer (some ⟨b0_3, 0, none⟩)), (4, .int .i64 x6.1), (5, .int .i64 x6.2.1), (6, .int .i64 x8.1), (7, .int .i64 x10.1), (8, .int .i64 x10.2), (9, .int .i64 (if 4096 < (IntKind.i64.wrap (x8.1 + 300)) then 4096 else (IntKind.i64.wrap (x8.1 + 300)))), (10, .int .i64 x8.1)] ⟨rfl, rfl, rfl, rfl, rfl, rfl, rfl, rfl, trivial⟩ (fun J => ?_)
      refine c_block ?_
      obtain ⟨d25, hd25, h25⟩ := bind_some h
      obtain ⟨m25, hd25⟩ := loop_some hd25
      refine c_loop (loop_rule hmx (σ := Nat × Int) (fun s => match s with | (_, x_s10) => [(3, .pointer (some ⟨b0_3, 0, none⟩)), (4, .int .i64 x6.1), (5, .int .i64 x6.2.1), (6, .int .i64 x8.1), (7, .int .i64 x10.1), (8, .int .i64 x10.2), (9, .int .i64 (if 4096 < (IntKind.i64.wrap (x8.1 + 300)) then 4096 else (IntKind.i64.wrap (x8.1 + 300)))), (10, .int .i64 x_s10)]) (fun s w' => match s with | (m, x_s10) => loopN (law12_CodeNext_L25 x6 x8) m x_s10 = some d25 ∧ Ev [] w w' ∧ MS w' [[b0_3], M] ∧ FR w.heap.size [[b0_3]] ∧ w'.heap[b0_3]? = some (.cells #[.slice a1_3 (x2.1).length c1_3, .int .i64 x8.2] 41 (0, 0)) ∧ SlR (eInt .i64) w' (fl [[b0_3], M]) a1_3 c1_3 x2.1) (fun s => s.1) (m25, x8.1) ⟨rfl, rfl, rfl, rfl, rfl, rfl, rfl, rfl, trivial⟩ ⟨hd25, hev, hms, hfr, hf3_1, hf3_2⟩ ?_)
      rintro ⟨m25, x_s10⟩ J w25 ⟨hn25, hev, hms, hfr, hf3_1, hf3_2⟩
      rcases m25 with _ | m25
      · exact (loopN_zero hn25).elim
      obtain ⟨t25, h, hn25⟩ := bind_some hn25
      refine c_seq ?_
      refine c_seq ?_
      refine c_plain ?_
      refine x_pure 3 [(51, .int .i64 x_s10), (52, .int .i64 (if 4096 < (IntKind.i64.wrap (x8.1 + 300)) then 4096 else (IntKind.i64.wrap (x8.1 + 300)))), (53, .bool (decide (x_s10 < (if 4096 < (IntKind.i64.wrap (x8.1 + 300)) then 4096 else (IntKind.i64.wrap (x8.1 + 300))))))] _ _ _ (by kernel_rfl) ?_
      refine x_end rfl ?_
      refine k_then ?_
      refine c_norm [(3, .pointer (some ⟨b0_3, 0, none⟩)), (4, .int .i64 x6.1), (5, .int .i64 x6.2.1), (6, .int .i64 x8.1), (7, .int .i64 x10.1), (8, .int .i64 x10.2), (9, .int .i64 (if 4096 < (IntKind.i64.wrap (x8.1 + 300)) then 4096 else (IntKind.i64.wrap (x8.1 + 300)))), (10, .int .i64 x_s10), (53, .bool (decide (x_s10 < (if 4096 < (IntKind.i64.wrap (x8.1 + 300)) then 4096 else (IntKind.i64.wrap (x8.1 + 300))))))] ⟨rfl, rfl, rfl, rfl, rfl, rfl, rfl, rfl, rfl, trivial⟩ (fun J => ?_)
      refine c_cond (decide (x_s10 < (if 4096 < (IntKind.i64.wrap (x8.1 + 300)) then 4096 else (IntKind.i64.wrap (x8.1 + 300))))) rfl (fun hb => ?_) (fun hb => ?_)
      · replace h := ite_t hb h
        refine c_skip ?_
        refine k_then ?_
        refine c_norm [(3, .pointer (some ⟨b0_3, 0, none⟩)), (4, .int .i64 x6.1), (5, .int .i64 x6.2.1), (6, .int .i64 x8.1), (7, .int .i64 x10.1), (8, .int .i64 x10.2), (9, .int .i64 (if 4096 < (IntKind.i64.wrap (x8.1 + 300)) then 4096 else (IntKind.i64.wrap (x8.1 + 300)))), (10, .int .i64 x_s10)] ⟨rfl, rfl, rfl, rfl, rfl, rfl, rfl, rfl, trivial⟩ (fun J => ?_)
        refine c_seq ?_
        refine c_block ?_
        refine c_seq ?_
        refine c_plain ?_
        refine x_pure 3 [(56, .int .i64 x_s10), (57, .int .i64 x6.1), (58, .int .i64 x6.2.1)] _ _ _ (by kernel_rfl) ?_
        obtain ⟨x26, hx, h⟩ := bind_some h
        have hcall := code_Is_w x_s10 x6.1 x6.2.1 _ w25 hx
        refine x_call 13 #[] #[] [.int .i64 x_s10, .int .i64 x6.1, .int .i64 x6.2.1] _ rfl rfl rfl rfl hcall ?_
        rintro v w27 ⟨rfl, he27⟩
        clear hcall hx
        refine ⟨.inl rfl, ?_⟩
        have hst := Stp.ext (ls := [[b0_3], M]) he27
        replace hf3_1 := he27.box hf3_1 (fun h => by cases h)
        replace hf3_2 := hf3_2.step hst
        replace hms := hms.ev he27
        replace hev := hev.ext he27
        refine x_end rfl ?_
        refine k_then ?_
        refine c_norm [(3, .pointer (some ⟨b0_3, 0, none⟩)), (4, .int .i64 x6.1), (5, .int .i64 x6.2.1), (6, .int .i64 x8.1), (7, .int .i64 x10.1), (8, .int .i64 x10.2), (9, .int .i64 (if 4096 < (IntKind.i64.wrap (x8.1 + 300)) then 4096 else (IntKind.i64.wrap (x8.1 + 300)))), (10, .int .i64 x_s10), (59, .bool x26)] ⟨rfl, rfl, rfl, rfl, rfl, rfl, rfl, rfl, rfl, trivial⟩ (fun J => ?_)
        refine c_cond x26 rfl (fun hb => ?_) (fun hb => ?_)
        · replace h := ite_t hb h
          refine c_seq ?_
          refine c_plain ?_
          refine x_pure 1 [(2, .bool false)] _ _ _ (by kernel_rfl) ?_
          refine x_end rfl ?_
          refine k_then ?_
          refine c_norm [(2, .bool false)] ⟨rfl, trivial⟩ (fun J => ?_)
          refine c_ret ?_
          refine k_block_ret ?_
          refine k_then_ret ?_
          have hx := some_inj h
          subst hx
          have hy := some_inj hn25
          subst hy
          replace h := h25
          refine k_then_ret ?_
          refine k_block_ret ?_
          refine k_then_ret ?_
          refine r_ret (r_one (.bool false) rfl ?_)
          have hx := some_inj h
          subst hx
          have hsu : ∀ x ∈ fl [M], x ∈ fl [[b0_3], M] := fl_right (loc := [[b0_3]]) (par := [M])
          exact ⟨rfl, hev⟩
        · replace h := ite_f hb h
          refine c_skip ?_
          refine k_block ?_
          refine k_then ?_
          refine c_norm [(3, .pointer (some ⟨b0_3, 0, none⟩)), (4, .int .i64 x6.1), (5, .int .i64 x6.2.1), (6, .int .i64 x8.1), (7, .int .i64 x10.1), (8, .int .i64 x10.2), (9, .int .i64 (if 4096 < (IntKind.i64.wrap (x8.1 + 300)) then 4096 else (IntKind.i64.wrap (x8.1 + 300)))), (10, .int .i64 x_s10)] ⟨rfl, rfl, rfl, rfl, rfl, rfl, rfl, rfl, trivial⟩ (fun J => ?_)
          refine c_plain ?_
          refine x_pure 3 [(54, .int .i64 x_s10), (55, .int .i64 (IntKind.i64.wrap (x_s10 + 1))), (10, .int .i64 (IntKind.i64.wrap (x_s10 + 1)))] _ _ _ (by kernel_rfl) ?_
          refine x_end rfl ?_
          have hx := some_inj h
          subst hx
          exact k_then ⟨(m25, IntKind.i64.wrap (x_s10 + 1)), ⟨rfl, rfl, rfl, rfl, rfl, rfl, rfl, rfl, trivial⟩, ⟨hn25, hev, hms, hfr, hf3_1, hf3_2⟩, Nat.lt_succ_self _⟩
      · replace h := ite_f hb h
        refine c_exit ?_
        refine k_then_exit ?_
        have hx := some_inj h
        subst hx
        have hy := some_inj hn25
        subst hy
        replace h := h25
        refine k_then_exit ?_
        refine k_block_in ?_
        refine k_then ?_
        refine c_norm [(3, .pointer (some ⟨b0_3, 0, none⟩)), (4, .int .i64 x6.1), (5, .int .i64 x6.2.1), (6, .int .i64 x8.1), (7, .int .i64 x10.1), (8, .int .i64 x10.2)] ⟨rfl, rfl, rfl, rfl, rfl, rfl, trivial⟩ (fun J => ?_)
        refine c_seq ?_
        refine c_plain ?_
        refine x_pure 2 [(60, .int .i64 x8.1), (61, .pointer (some ⟨b0_3, 0, none⟩))] _ _ _ (by kernel_rfl) ?_
        obtain ⟨x28, hx, h⟩ := bind_some h
        have hpk := hms.pick [some 0, some 1] [[b0_3], M] rfl
        have hsb : ∀ x ∈ fl [[b0_3], (fl [M])], x ∈ fl [[b0_3], M] := fun x hx => pick_sub [some 0, some 1] [[b0_3], M] rfl x (focus_sub (ls := [[b0_3], M]) 0 rfl x hx)
        have hcall := gen_Maker_Next_w b0_3 a1_3 c1_3 x2.1 x8.2 100 _ w25 (fl [M]) (hpk.focus 0 rfl) (hf3_2.sub hsb) hf3_1 hx
        refine x_call 11 #[] #[] [.pointer (some ⟨b0_3, 0, none⟩), .int .i64 100] _ rfl rfl rfl rfl hcall ?_
        rintro v w29 ⟨rfl, he29, hbn29⟩
        clear hcall hx
        refine ⟨.inl rfl, ?_⟩
        have hst := Stp.ev' (ls := [[b0_3], M]) he29 (mem_flat 0 rfl)
        replace hf3_2 := hf3_2.step hst
        replace hms := hms.ev he29
        replace hev := hev.then he29 (fun b hb => .inr (hfr.at 0 rfl b hb))
        replace hf3_1 := hbn29
        refine x_pure 2 [(63, .int .i64 (IntKind.i64.wrap (x8.1 + x28.1))), (11, .int .i64 (IntKind.i64.wrap (x8.1 + x28.1)))] _ _ _ (by kernel_rfl) ?_
        refine x_end rfl ?_
        refine k_then ?_
        refine c_norm [(4, .int .i64 x6.1), (5, .int .i64 x6.2.1), (7, .int .i64 x10.1), (8, .int .i64 x10.2), (11, .int .i64 (IntKind.i64.wrap (x8.1 + x28.1)))] ⟨rfl, rfl, rfl, rfl, rfl, trivial⟩ (fun J => ?_)
        refine c_seq ?_
        refine c_plain ?_
        refine x_pure 3 [(65, .int .i64 (IntKind.i64.wrap (x8.1 + x28.1))), (66, .int .i64 x6.1), (67, .int .i64 x6.2.1)] _ _ _ (by kernel_rfl) ?_
        obtain ⟨x30, hx, h⟩ := bind_some h
        have hcall := code_Next_w (IntKind.i64.wrap (x8.1 + x28.1)) x6.1 x6.2.1 _ w29 hx
        refine x_call 12 #[] #[] [.int .i64 (IntKind.i64.wrap (x8.1 + x28.1)), .int .i64 x6.1, .int .i64 x6.2.1] _ rfl rfl rfl rfl hcall ?_
        rintro v w31 ⟨rfl, he31⟩
        clear hcall hx
        refine ⟨.inl rfl, ?_⟩
        have hst := Stp.ext (ls := [[b0_3], M]) he31
        replace hf3_1 := he31.box hf3_1 (fun h => by cases h)
        replace hf3_2 := hf3_2.step hst
        replace hms := hms.ev he31
        replace hev := hev.ext he31
        refine x_pure 5 [(64, .tuple #[.int .i64 x30.1, .int .i64 x30.2]), (69, .int .i64 x30.1), (70, .int .i64 x30.2), (12, .int .i64 x30.1), (13, .int .i64 x30.2)] _ _ _ (by kernel_rfl) ?_
        refine x_end rfl ?_
        refine k_then ?_
        refine c_norm [(7, .int .i64 x10.1), (8, .int .i64 x10.2), (12, .int .i64 x30.1), (13, .int .i64 x30.2)] ⟨rfl, rfl, rfl, rfl, trivial⟩ (fun J => ?_)
        refine c_seq ?_
        refine c_plain ?_
        refine x_pure 3 [(71, .int .i64 x30.2), (72, .bool (x30.2 != 0)), (73, .bool (x30.2 != 0))] _ _ _ (by kernel_rfl) ?_
        refine x_split 73 (x30.2 != 0) rfl (fun hb => ?_) (fun hb => ?_)
        · replace h := ite_t hb h
          refine x_pure 9 [(74, undef), (75, undef), (76, undef), (77, undef), (78, undef), (79, undef), (80, undef), (81, .bool true), (82, .bool true)] _ _ _ (by kernel_rfl) ?_
          obtain ⟨x32, hx, h⟩ := bind_some h
          have hcall := law12_sane_w _ w31 hx
          refine x_call 14 #[] #[] [] _ rfl rfl rfl rfl hcall ?_
          rintro v w33 ⟨rfl, he33⟩
          clear hcall hx
          refine ⟨.inl rfl, ?_⟩
          have hst := Stp.ext (ls := [[b0_3], M]) he33
          replace hf3_1 := he33.box hf3_1 (fun h => by cases h)
          replace hf3_2 := hf3_2.step hst
          replace hms := hms.ev he33
          replace hev := hev.ext he33
          refine x_pure 2 [(84, .bool x32), (2, .bool x32)] _ _ _ (by kernel_rfl) ?_
          refine x_end rfl ?_
          refine k_then ?_
          refine c_norm [(2, .bool x32)] ⟨rfl, trivial⟩ (fun J => ?_)
          refine c_ret ?_
          refine r_ret (r_one (.bool x32) rfl ?_)
          have hx := some_inj h
          subst hx
          have hsu : ∀ x ∈ fl [M], x ∈ fl [[b0_3], M] := fl_right (loc := [[b0_3]]) (par := [M])
          exact ⟨rfl, hev⟩
        · replace h := ite_f hb h
          refine x_pure 3 [(74, .int .i64 x10.2), (75, .bool (x10.2 == 0)), (76, .bool (x10.2 == 0))] _ _ _ (by kernel_rfl) ?_
          refine x_split 76 (x10.2 == 0) rfl (fun hb => ?_) (fun hb => ?_)
          · replace h := ite_t hb h
            refine x_pure 6 [(77, .int .i64 x10.1), (78, .int .i64 x30.1), (79, .bool (decide (x10.1 ≤ x30.1))), (80, .bool (decide (x10.1 ≤ x30.1))), (81, .bool (decide (x10.1 ≤ x30.1))), (82, .bool (decide (x10.1 ≤ x30.1)))] _ _ _ (by kernel_rfl) ?_
            refine x_split 82 (decide (x10.1 ≤ x30.1)) rfl (fun hb => ?_) (fun hb => ?_)
            · replace h := ite_t hb h
              obtain ⟨x34, hx, h⟩ := bind_some h
              have hcall := law12_sane_w _ w31 hx
              refine x_call 14 #[] #[] [] _ rfl rfl rfl rfl hcall ?_
              rintro v w35 ⟨rfl, he35⟩
              clear hcall hx
              refine ⟨.inl rfl, ?_⟩
              have hst := Stp.ext (ls := [[b0_3], M]) he35
              replace hf3_1 := he35.box hf3_1 (fun h => by cases h)
              replace hf3_2 := hf3_2.step hst
              replace hms := hms.ev he35
              replace hev := hev.ext he35
              refine x_pure 2 [(84, .bool x34), (2, .bool x34)] _ _ _ (by kernel_rfl) ?_
              refine x_end rfl ?_
              refine k_then ?_
              refine c_norm [(2, .bool x34)] ⟨rfl, trivial⟩ (fun J => ?_)
              refine c_ret ?_
              refine r_ret (r_one (.bool x34) rfl ?_)
              have hx := some_inj h
              subst hx
              have hsu : ∀ x ∈ fl [M], x ∈ fl [[b0_3], M] := fl_right (loc := [[b0_3]]) (par := [M])
              exact ⟨rfl, hev⟩
            · replace h := ite_f hb h
              refine x_pure 3 [(83, undef), (84, .bool false), (2, .bool false)] _ _ _ (by kernel_rfl) ?_
              refine x_end rfl ?_
              refine k_then ?_
              refine c_norm [(2, .bool false)] ⟨rfl, trivial⟩ (fun J => ?_)
              refine c_ret ?_
              refine r_ret (r_one (.bool false) rfl ?_)
              have hx := some_inj h
              subst hx
              have hsu : ∀ x ∈ fl [M], x ∈ fl [[b0_3], M] := fl_right (loc := [[b0_3]]) (par := [M])
              exact ⟨rfl, hev⟩
          · replace h := ite_f hb h
            refine x_pure 9 [(77, undef), (78, undef), (79, undef), (80, .bool false), (81, .bool false), (82, .bool false), (83, undef), (84, .bool false), (2, .bool false)] _ _ _ (by kernel_rfl) ?_
            refine x_end rfl ?_
            refine k_then ?_
            refine c_norm [(2, .bool false)] ⟨rfl, trivial⟩ (fun J => ?_)
            refine c_ret ?_
            refine r_ret (r_one (.bool false) rfl ?_)
            have hx := some_inj h
            subst hx
            have hsu : ∀ x ∈ fl [M], x ∈ fl [[b0_3], M] := fl_right (loc := [[b0_3]]) (par := [M])
            exact ⟨rfl, hev⟩
  · replace h := ite_f hb h
    refine c_skip ?_
    refine k_then ?_
    refine c_norm [(3, .pointer (some ⟨b0_3, 0, none⟩)), (4, .int .i64 x6.1), (5, .int .i64 x6.2.1), (6, .int .i64 x8.1), (7, .int .i64 x10.1), (8, .int .i64 x10.2), (9, .int .i64 x10.1)] ⟨rfl, rfl, rfl, rfl, rfl, rfl, rfl, trivial⟩ (fun J => ?_)
    refine c_seq ?_
    refine c_seq ?_
    refine c_plain ?_
    refine x_pure 3 [(36, .int .i64 x10.2), (37, .bool (x10.2 == 0)), (38, .bool (x10.2 == 0))] _ _ _ (by kernel_rfl) ?_
    refine x_split 38 (x10.2 == 0) rfl (fun hb => ?_) (fun hb => ?_)
    · replace h := ite_t hb h
      refine x_pure 4 [(39, .int .i64 x10.1), (40, .int .i64 x8.1), (41, .bool (decide (x10.1 < x8.1))), (42, .bool (decide (x10.1 < x8.1)))] _ _ _ (by kernel_rfl) ?_
      refine x_split 42 (decide (x10.1 < x8.1)) rfl (fun hb => ?_) (fun hb => ?_)
      · replace h := ite_t hb h
        refine x_pure 7 [(43, undef), (44, undef), (45, undef), (46, undef), (47, undef), (48, .bool true), (49, .bool true)] _ _ _ (by kernel_rfl) ?_
        refine x_end rfl ?_
        refine k_then ?_
        refine c_norm [(3, .pointer (some ⟨b0_3, 0, none⟩)), (4, .int .i64 x6.1), (5, .int .i64 x6.2.1), (6, .int .i64 x8.1), (7, .int .i64 x10.1), (8, .int .i64 x10.2), (9, .int .i64 x10.1), (49, .bool true)] ⟨rfl, rfl, rfl, rfl, rfl, rfl, rfl, rfl, trivial⟩ (fun J => ?_)
        refine c_true rfl ?_
        refine c_seq ?_
        refine c_plain ?_
        refine x_pure 1 [(2, .bool false)] _ _ _ (by kernel_rfl) ?_
        refine x_end rfl ?_
        refine k_then ?_
        refine c_norm [(2, .bool false)] ⟨rfl, trivial⟩ (fun J => ?_)
        refine c_ret ?_
        refine k_then_ret ?_
        refine r_ret (r_one (.bool false) rfl ?_)
        have hx := some_inj h
        subst hx
        have hsu : ∀ x ∈ fl [M], x ∈ fl [[b0_3], M] := fl_right (loc := [[b0_3]]) (par := [M])
        exact ⟨rfl, hev⟩
      · replace h := ite_f hb h
        refine x_pure 3 [(43, .int .i64 x10.1), (44, .int .i64 x6.1), (45, .int .i64 x6.2.1)] _ _ _ (by kernel_rfl) ?_
        obtain ⟨x36, hx, h⟩ := bind_some h
        have hcall := code_Is_w x10.1 x6.1 x6.2.1 _ w11 hx
        refine x_call 13 #[] #[] [.int .i64 x10.1, .int .i64 x6.1, .int .i64 x6.2.1] _ rfl rfl rfl rfl hcall ?_
        rintro v w37 ⟨rfl, he37⟩
        clear hcall hx
        refine ⟨.inl rfl, ?_⟩
        have hst := Stp.ext (ls := [[b0_3], M]) he37
        replace hf3_1 := he37.box hf3_1 (fun h => by cases h)
        replace hf3_2 := hf3_2.step hst
        replace hms := hms.ev he37
        replace hev := hev.ext he37
        refine x_pure 3 [(47, .bool (!x36)), (48, .bool (!x36)), (49, .bool (!x36))] _ _ _ (by kernel_rfl) ?_
        refine x_end rfl ?_
        refine k_then ?_
        refine c_norm [(3, .pointer (some ⟨b0_3, 0, none⟩)), (4, .int .i64 x6.1), (5, .int .i64 x6.2.1), (6, .int .i64 x8.1), (7, .int .i64 x10.1), (8, .int .i64 x10.2), (9, .int .i64 x10.1), (49, .bool (!x36))] ⟨rfl, rfl, rfl, rfl, rfl, rfl, rfl, rfl, trivial⟩ (fun J => ?_)
        refine c_cond (!x36) rfl (fun hb => ?_) (fun hb => ?_)
        · replace h := ite_t hb h
          refine c_seq ?_
          refine c_plain ?_
          refine x_pure 1 [(2, .bool false)] _ _ _ (by kernel_rfl) ?_
          refine x_end rfl ?_
          refine k_then ?_
          refine c_norm [(2, .bool false)] ⟨rfl, trivial⟩ (fun J => ?_)
          refine c_ret ?_
          refine k_then_ret ?_
          refine r_ret (r_one (.bool false) rfl ?_)
          have hx := some_inj h
          subst hx
          have hsu : ∀ x ∈ fl [M], x ∈ fl [[b0_3], M] := fl_right (loc := [[b0_3]]) (par := [M])
          exact ⟨rfl, hev⟩
        · replace h := ite_f hb h
          refine c_skip ?_
          refine k_then ?_
          refine c_norm [(3, .pointer (some ⟨b0_3, 0, none⟩)), (4, .int .i64 x6.1), (5, .int .i64 x6.2.1), (6, .int .i64 x8.1), (7, .int .i64 x10.1), (8, .int .i64 x10.2), (9, .int .i64 x10.1)] ⟨rfl, rfl, rfl, rfl, rfl, rfl, rfl, trivial⟩ (fun J => ?_)
          refine c_seq ?_
          refine c_seq ?_
          refine c_plain ?_
          refine x_pure 2 [(50, .int .i64 x8.1), (10, .int .i64 x8.1)] _ _ _ (by kernel_rfl) ?_
          refine x_end rfl ?_
          refine k_then ?_
          refine c_norm [(3, .pointer (some ⟨b0_3, 0, none⟩)), (4, .int .i64 x6.1), (5, .int .i64 x6.2.1), (6, .int .i64 x8.1), (7, .int .i64 x10.1), (8, .int .i64 x10.2), (9, .int .i64 x10.1), (10, .int .i64 x8.1)] ⟨rfl, rfl, rfl, rfl, rfl, rfl, rfl, rfl, trivial⟩ (fun J => ?_)
          refine c_block ?_
          obtain ⟨d38, hd38, h38⟩ := bind_some h
          obtain ⟨m38, hd38⟩ := loop_some hd38
          refine c_loop (loop_rule hmx (σ := Nat × Int) (fun s => match s with | (_, x_s10) => [(3, .pointer (some ⟨b0_3, 0, none⟩)), (4, .int .i64 x6.1), (5, .int .i64 x6.2.1), (6, .int .i64 x8.1), (7, .int .i64 x10.1), (8, .int .i64 x10.2), (9, .int .i64 x10.1), (10, .int .i64 x_s10)]) (fun s w' => match s with | (m, x_s10) => loopN (law12_CodeNext_L38 x6 x10) m x_s10 = some d38 ∧ Ev [] w w' ∧ MS w' [[b0_3], M] ∧ FR w.heap.size [[b0_3]] ∧ w'.heap[b0_3]? = some (.cells #[.slice a1_3 (x2.1).length c1_3, .int .i64 x8.2] 41 (0, 0)) ∧ SlR (eInt .i64) w' (fl [[b0_3], M]) a1_3 c1_3 x2.1) (fun s => s.1) (m38, x8.1) ⟨rfl, rfl, rfl, rfl, rfl, rfl, rfl, rfl, trivial⟩ ⟨hd38, hev, hms, hfr, hf3_1, hf3_2⟩ ?_)
          rintro ⟨m38, x_s10⟩ J w38 ⟨hn38, hev, hms, hfr, hf3_1, hf3_2⟩
          rcases m38 with _ | m38
          · exact (loopN_zero hn38).elim
          obtain ⟨t38, h, hn38⟩ := bind_some hn38
          refine c_seq ?_
          refine c_seq ?_
          refine c_plain ?_
          refine x_pure 3 [(51, .int .i64 x_s10), (52, .int .i64 x10.1), (53, .bool (decide (x_s10 < x10.1)))] _ _ _ (by kernel_rfl) ?_
          refine x_end rfl ?_
          refine k_then ?_
          refine c_norm [(3, .pointer (some ⟨b0_3, 0, none⟩)), (4, .int .i64 x6.1), (5, .int .i64 x6.2.1), (6, .int .i64 x8.1), (7, .int .i64 x10.1), (8, .int .i64 x10.2), (9, .int .i64 x10.1), (10, .int .i64 x_s10), (53, .bool (decide (x_s10 < x10.1)))] ⟨rfl, rfl, rfl, rfl, rfl, rfl, rfl, rfl, rfl, trivial⟩ (fun J => ?_)
          refine c_cond (decide (x_s10 < x10.1)) rfl (fun hb => ?_) (fun hb => ?_)
          · replace h := ite_t hb h
            refine c_skip ?_
            refine k_then ?_
            refine c_norm [(3, .pointer (some ⟨b0_3, 0, none⟩)), (4, .int .i64 x6.1), (5, .int .i64 x6.2.1), (6, .int .i64 x8.1), (7, .int .i64 x10.1), (8, .int .i64 x10.2), (9, .int .i64 x10.1), (10, .int .i64 x_s10)] ⟨rfl, rfl, rfl, rfl, rfl, rfl, rfl, rfl, trivial⟩ (fun J => ?_)
            refine c_seq ?_
            refine c_block ?_
            refine c_seq ?_
            refine c_plain ?_
            refine x_pure 3 [(56, .int .i64 x_s10), (57, .int .i64 x6.1), (58, .int .i64 x6.2.1)] _ _ _ (by kernel_rfl) ?_
            obtain ⟨x39, hx, h⟩ := bind_some h
            have hcall := code_Is_w x_s10 x6.1 x6.2.1 _ w38 hx
            refine x_call 13 #[] #[] [.int .i64 x_s10, .int .i64 x6.1, .int .i64 x6.2.1] _ rfl rfl rfl rfl hcall ?_
            rintro v w40 ⟨rfl, he40⟩
            clear hcall hx
            refine ⟨.inl rfl, ?_⟩
            have hst := Stp.ext (ls := [[b0_3], M]) he40
            replace hf3_1 := he40.box hf3_1 (fun h => by cases h)
            replace hf3_2 := hf3_2.step hst
            replace hms := hms.ev he40
            replace hev := hev.ext he40
            refine x_end rfl ?_
            refine k_then ?_
            refine c_norm [(3, .pointer (some ⟨b0_3, 0, none⟩)), (4, .int .i64 x6.1), (5, .int .i64 x6.2.1), (6, .int .i64 x8.1), (7, .int .i64 x10.1), (8, .int .i64 x10.2), (9, .int .i64 x10.1), (10, .int .i64 x_s10), (59, .bool x39)] ⟨rfl, rfl, rfl, rfl, rfl, rfl, rfl, rfl, rfl, trivial⟩ (fun J => ?_)
            refine c_cond x39 rfl (fun hb => ?_) (fun hb => ?_)
            · replace h := ite_t hb h
              refine c_seq ?_
              refine c_plain ?_
              refine x_pure 1 [(2, .bool false)] _ _ _ (by kernel_rfl) ?_
              refine x_end rfl ?_
              refine k_then ?_
              refine c_norm [(2, .bool false)] ⟨rfl, trivial⟩ (fun J => ?_)
              refine c_ret ?_
              refine k_block_ret ?_
              refine k_then_ret ?_
              have hx := some_inj h
              subst hx
              have hy := some_inj hn38
              subst hy
              replace h := h38
              refine k_then_ret ?_
              refine k_block_ret ?_
              refine k_then_ret ?_
              refine r_ret (r_one (.bool false) rfl ?_)
              have hx := some_inj h
              subst hx
              have hsu : ∀ x ∈ fl [M], x ∈ fl [[b0_3], M] := fl_right (loc := [[b0_3]]) (par := [M])
              exact ⟨rfl, hev⟩
            · replace h := ite_f hb h
              refine c_skip ?_
              refine k_block ?_
              refine k_then ?_
              refine c_norm [(3, .pointer (some ⟨b0_3, 0, none⟩)), (4, .int .i64 x6.1), (5, .int .i64 x6.2.1), (6, .int .i64 x8.1), (7, .int .i64 x10.1), (8, .int .i64 x10.2), (9, .int .i64 x10.1), (10, .int .i64 x_s10)] ⟨rfl, rfl, rfl, rfl, rfl, rfl, rfl, rfl, trivial⟩ (fun J => ?_)
              refine c_plain ?_
              refine x_pure 3 [(54, .int .i64 x_s10), (55, .int .i64 (IntKind.i64.wrap (x_s10 + 1))), (10, .int .i64 (IntKind.i64.wrap (x_s10 + 1)))] _ _ _ (by kernel_rfl) ?_
              refine x_end rfl ?_
              have hx := some_inj h
              subst hx
              exact k_then ⟨(m38, IntKind.i64.wrap (x_s10 + 1)), ⟨rfl, rfl, rfl, rfl, rfl, rfl, rfl, rfl, trivial⟩, ⟨hn38, hev, hms, hfr, hf3_1, hf3_2⟩, Nat.lt_succ_self _⟩
          · replace h := ite_f hb h
            refine c_exit ?_
            refine k_then_exit ?_
            have hx := some_inj h
            subst hx
            have hy := some_inj hn38
            subst hy
            replace h := h38
            refine k_then_exit ?_
            refine k_block_in ?_
            refine k_then ?_
            refine c_norm [(3, .pointer (some ⟨b0_3, 0, none⟩)), (4, .int .i64 x6.1), (5, .int .i64 x6.2.1), (6, .int .i64 x8.1), (7, .int .i64 x10.1), (8, .int .i64 x10.2)] ⟨rfl, rfl, rfl, rfl, rfl, rfl, trivial⟩ (fun J => ?_)
            refine c_seq ?_
            refine c_plain ?_
            refine x_pure 2 [(60, .int .i64 x8.1), (61, .pointer (some ⟨b0_3, 0, none⟩))] _ _ _ (by kernel_rfl) ?_
            obtain ⟨x41, hx, h⟩ := bind_some h
            have hpk := hms.pick [some 0, some 1] [[b0_3], M] rfl
            have hsb : ∀ x ∈ fl [[b0_3], (fl [M])], x ∈ fl [[b0_3], M] := fun x hx => pick_sub [some 0, some 1] [[b0_3], M] rfl x (focus_sub (ls := [[b0_3], M]) 0 rfl x hx)
            have hcall := gen_Maker_Next_w b0_3 a1_3 c1_3 x2.1 x8.2 100 _ w38 (fl [M]) (hpk.focus 0 rfl) (hf3_2.sub hsb) hf3_1 hx
            refine x_call 11 #[] #[] [.pointer (some ⟨b0_3, 0, none⟩), .int .i64 100] _ rfl rfl rfl rfl hcall ?_
            rintro v w42 ⟨rfl, he42, hbn42⟩
            clear hcall hx
            refine ⟨.inl rfl, ?_⟩
            have hst := Stp.ev' (ls := [[b0_3], M]) he42 (mem_flat 0 rfl)
            replace hf3_2 := hf3_2.step hst
            replace hms := hms.ev he42
            replace hev := hev.then he42 (fun b hb => .inr (hfr.at 0 rfl b hb))
            replace hf3_1 := hbn42
            refine x_pure 2 [(63, .int .i64 (IntKind.i64.wrap (x8.1 + x41.1))), (11, .int .i64 (IntKind.i64.wrap (x8.1 + x41.1)))] _ _ _ (by kernel_rfl) ?_
            refine x_end rfl ?_
            refine k_then ?_
            refine c_norm [(4, .int .i64 x6.1), (5, .int .i64 x6.2.1), (7, .int .i64 x10.1), (8, .int .i64 x10.2), (11, .int .i64 (IntKind.i64.wrap (x8.1 + x41.1)))] ⟨rfl, rfl, rfl, rfl, rfl, trivial⟩ (fun J => ?_)
            refine c_seq ?_
            refine c_plain ?_
            refine x_pure 3 [(65, .int .i64 (IntKind.i64.wrap (x8.1 + x41.1))), (66, .int .i64 x6.1), (67, .int .i64 x6.2.1)] _ _ _ (by kernel_rfl) ?_
            obtain ⟨x43, hx, h⟩ := bind_some h
            have hcall := code_Next_w (IntKind.i64.wrap (x8.1 + x41.1)) x6.1 x6.2.1 _ w42 hx
            refine x_call 12 #[] #[] [.int .i64 (IntKind.i64.wrap (x8.1 + x41.1)), .int .i64 x6.1, .int .i64 x6.2.1] _ rfl rfl rfl rfl hcall ?_
            rintro v w44 ⟨rfl, he44⟩
            clear hcall hx
            refine ⟨.inl rfl, ?_⟩
            have hst := Stp.ext (ls := [[b0_3], M]) he44
            replace hf3_1 := he44.box hf3_1 (fun h => by cases h)
            replace hf3_2 := hf3_2.step hst
            replace hms := hms.ev he44
            replace hev := hev.ext he44
            refine x_pure 5 [(64, .tuple #[.int .i64 x43.1, .int .i64 x43.2]), (69, .int .i64 x43.1), (70, .int .i64 x43.2), (12, .int .i64 x43.1), (13, .int .i64 x43.2)] _ _ _ (by kernel_rfl) ?_
            refine x_end rfl ?_
            refine k_then ?_
            refine c_norm [(7, .int .i64 x10.1), (8, .int .i64 x10.2), (12, .int .i64 x43.1), (13, .int .i64 x43.2)] ⟨rfl, rfl, rfl, rfl, trivial⟩ (fun J => ?_)
            refine c_seq ?_
            refine c_plain ?_
            refine x_pure 3 [(71, .int .i64 x43.2), (72, .bool (x43.2 != 0)), (73, .bool (x43.2 != 0))] _ _ _ (by kernel_rfl) ?_
            refine x_split 73 (x43.2 != 0) rfl (fun hb => ?_) (fun hb => ?_)
            · replace h := ite_t hb h
              refine x_pure 9 [(74, undef), (75, undef), (76, undef), (77, undef), (78, undef), (79, undef), (80, undef), (81, .bool true), (82, .bool true)] _ _ _ (by kernel_rfl) ?_
              obtain ⟨x45, hx, h⟩ := bind_some h
              have hcall := law12_sane_w _ w44 hx
              refine x_call 14 #[] #[] [] _ rfl rfl rfl rfl hcall ?_
              rintro v w46 ⟨rfl, he46⟩
              clear hcall hx
              refine ⟨.inl rfl, ?_⟩
              have hst := Stp.ext (ls := [[b0_3], M]) he46
              replace hf3_1 := he46.box hf3_1 (fun h => by cases h)
              replace hf3_2 := hf3_2.step hst
              replace hms := hms.ev he46
              replace hev := hev.ext he46
              refine x_pure 2 [(84, .bool x45), (2, .bool x45)] _ _ _ (by kernel_rfl) ?_
              refine x_end rfl ?_
              refine k_then ?_
              refine c_norm [(2, .bool x45)] ⟨rfl, trivial⟩ (fun J => ?_)
              refine c_ret ?_
              refine r_ret (r_one (.bool x45) rfl ?_)
              have hx := some_inj h
              subst hx
              have hsu : ∀ x ∈ fl [M], x ∈ fl [[b0_3], M] := fl_right (loc := [[b0_3]]) (par := [M])
              exact ⟨rfl, hev⟩
            · replace h := ite_f hb h
              refine x_pure 3 [(74, .int .i64 x10.2), (75, .bool (x10.2 == 0)), (76, .bool (x10.2 == 0))] _ _ _ (by kernel_rfl) ?_
              refine x_split 76 (x10.2 == 0) rfl (fun hb => ?_) (fun hb => ?_)
              · replace h := ite_t hb h
                refine x_pure 6 [(77, .int .i64 x10.1), (78, .int .i64 x43.1), (79, .bool (decide (x10.1 ≤ x43.1))), (80, .bool (decide (x10.1 ≤ x43.1))), (81, .bool (decide (x10.1 ≤ x43.1))), (82, .bool (decide (x10.1 ≤ x43.1)))] _ _ _ (by kernel_rfl) ?_
                refine x_split 82 (decide (x10.1 ≤ x43.1)) rfl (fun hb => ?_) (fun hb => ?_)
                · replace h := ite_t hb h
                  obtain ⟨x47, hx, h⟩ := bind_some h
                  have hcall := law12_sane_w _ w44 hx
                  refine x_call 14 #[] #[] [] _ rfl rfl rfl rfl hcall ?_
                  rintro v w48 ⟨rfl, he48⟩
                  clear hcall hx
                  refine ⟨.inl rfl, ?_⟩
                  have hst := Stp.ext (ls := [[b0_3], M]) he48
                  replace hf3_1 := he48.box hf3_1 (fun h => by cases h)
                  replace hf3_2 := hf3_2.step hst
                  replace hms := hms.ev he48
                  replace hev := hev.ext he48
                  refine x_pure 2 [(84, .bool x47), (2, .bool x47)] _ _ _ (by kernel_rfl) ?_
                  refine x_end rfl ?_
                  refine k_then ?_
                  refine c_norm [(2, .bool x47)] ⟨rfl, trivial⟩ (fun J => ?_)
                  refine c_ret ?_
                  refine r_ret (r_one (.bool x47) rfl ?_)
                  have hx := some_inj h
                  subst hx
                  have hsu : ∀ x ∈ fl [M], x ∈ fl [[b0_3], M] := fl_right (loc := [[b0_3]]) (par := [M])
                  exact ⟨rfl, hev⟩
                · replace h := ite_f hb h
                  refine x_pure 3 [(83, undef), (84, .bool false), (2, .bool false)] _ _ _ (by kernel_rfl) ?_
                  refine x_end rfl ?_
                  refine k_then ?_
                  refine c_norm [(2, .bool false)] ⟨rfl, trivial⟩ (fun J => ?_)
                  refine c_ret ?_
                  refine r_ret (r_one (.bool false) rfl ?_)
                  have hx := some_inj h
                  subst hx
                  have hsu : ∀ x ∈ fl [M], x ∈ fl [[b0_3], M] := fl_right (loc := [[b0_3]]) (par := [M])
                  exact ⟨rfl, hev⟩
              · replace h := ite_f hb h
                refine x_pure 9 [(77, undef), (78, undef), (79, undef), (80, .bool false), (81, .bool false), (82, .bool false), (83, undef), (84, .bool false), (2, .bool false)] _ _ _ (by kernel_rfl) ?_
                refine x_end rfl ?_
                refine k_then ?_
                refine c_norm [(2, .bool false)] ⟨rfl, trivial⟩ (fun J => ?_)
                refine c_ret ?_
                refine r_ret (r_one (.bool false) rfl ?_)
                have hx := some_inj h
                subst hx
                have hsu : ∀ x ∈ fl [M], x ∈ fl [[b0_3], M] := fl_right (loc := [[b0_3]]) (par := [M])
                exact ⟨rfl, hev⟩
    · replace h := ite_f hb h
      refine x_pure 11 [(39, undef), (40, undef), (41, undef), (42, undef), (43, undef), (44, undef), (45, undef), (46, undef), (47, undef), (48, undef), (49, .bool false)] _ _ _ (by kernel_rfl) ?_
      refine x_end rfl ?_
      refine k_then ?_
      refine c_norm [(3, .pointer (some ⟨b0_3, 0, none⟩)), (4, .int .i64 x6.1), (5, .int .i64 x6.2.1), (6, .int .i64 x8.1), (7, .int .i64 x10.1), (8, .int .i64 x10.2), (9, .int .i64 x10.1), (49, .bool false)] ⟨rfl, rfl, rfl, rfl, rfl, rfl, rfl, rfl, trivial⟩ (fun J => ?_)
      refine c_false rfl ?_
      refine c_skip ?_
      refine k_then ?_
      refine c_seq ?_
      refine c_seq ?_
      refine c_plain ?_
      refine x_pure 2 [(50, .int .i64 x8.1), (10, .int .i64 x8.1)] _ _ _ (by kernel_rfl) ?_
      refine x_end rfl ?_
      refine k_then ?_
      refine c_norm [(3, .pointer (some ⟨b0_3, 0, none⟩)), (4, .int .i64 x6.1), (5, .int .i64 x6.2.1), (6, .int .i64 x8.1), (7, .int .i64 x10.1), (8, .int .i64 x10.2), (9, .int .i64 x10.1), (10, .int .i64 x8.1)] ⟨rfl, rfl, rfl, rfl, rfl, rfl, rfl, rfl, trivial⟩ (fun J => ?_)
      refine c_block ?_
      obtain ⟨d49, hd49, h49⟩ := bind_some h
      obtain ⟨m49, hd49⟩ := loop_some hd49
      refine c_loop (loop_rule hmx (σ := Nat × Int) (fun s => match s with | (_, x_s10) => [(3, .pointer (some ⟨b0_3, 0, none⟩)), (4, .int .i64 x6.1), (5, .int .i64 x6.2.1), (6, .int .i64 x8.1), (7, .int .i64 x10.1), (8, .int .i64 x10.2), (9, .int .i64 x10.1), (10, .int .i64 x_s10)]) (fun s w' => match s with | (m, x_s10) => loopN (law12_CodeNext_L49 x6 x10) m x_s10 = some d49 ∧ Ev [] w w' ∧ MS w' [[b0_3], M] ∧ FR w.heap.size [[b0_3]] ∧ w'.heap[b0_3]? = some (.cells #[.slice a1_3 (x2.1).length c1_3, .int .i64 x8.2] 41 (0, 0)) ∧ SlR (eInt .i64) w' (fl [[b0_3], M]) a1_3 c1_3 x2.1) (fun s => s.1) (m49, x8.1) ⟨rfl, rfl, rfl, rfl, rfl, rfl, rfl, rfl, trivial⟩ ⟨hd49, hev, hms, hfr, hf3_1, hf3_2⟩ ?_)
      rintro ⟨m49, x_s10⟩ J w49 ⟨hn49, hev, hms, hfr, hf3_1, hf3_2⟩
      rcases m49 with _ | m49
      · exact (loopN_zero hn49).elim
      obtain ⟨t49, h, hn49⟩ := bind_some hn49
      refine c_seq ?_
      refine c_seq ?_
      refine c_plain ?_
      refine x_pure 3 [(51, .int .i64 x_s10), (52, .int .i64 x10.1), (53, .bool (decide (x_s10 < x10.1)))] _ _ _ (by kernel_rfl) ?_
      refine x_end rfl ?_
      refine k_then ?_
      refine c_norm [(3, .pointer (some ⟨b0_3, 0, none⟩)), (4, .int .i64 x6.1), (5, .int .i64 x6.2.1), (6, .int .i64 x8.1), (7, .int .i64 x10.1), (8, .int .i64 x10.2), (9, .int .i64 x10.1), (10, .int .i64 x_s10), (53, .bool (decide (x_s10 < x10.1)))] ⟨rfl, rfl, rfl, rfl, rfl, rfl, rfl, rfl, rfl, trivial⟩ (fun J => ?_)
      refine c_cond (decide (x_s10 < x10.1)) rfl (fun hb => ?_) (fun hb => ?_)
      · replace h := ite_t hb h
        refine c_skip ?_
        refine k_then ?_
        refine c_norm [(3, .pointer (some ⟨b0_3, 0, none⟩)), (4, .int .i64 x6.1), (5, .int .i64 x6.2.1), (6, .int .i64 x8.1), (7, .int .i64 x10.1), (8, .int .i64 x10.2), (9, .int .i64 x10.1), (10, .int .i64 x_s10)] ⟨rfl, rfl, rfl, rfl, rfl, rfl, rfl, rfl, trivial⟩ (fun J => ?_)
        refine c_seq ?_
        refine c_block ?_
        refine c_seq ?_
        refine c_plain ?_
        refine x_pure 3 [(56, .int .i64 x_s10), (57, .int .i64 x6.1), (58, .int .i64 x6.2.1)] _ _ _ (by kernel_rfl) ?_
        obtain ⟨x50, hx, h⟩ := bind_some h
        have hcall := code_Is_w x_s10 x6.1 x6.2.1 _ w49 hx
        refine x_call 13 #[] #[] [.int .i64 x_s10, .int .i64 x6.1, .int .i64 x6.2.1] _ rfl rfl rfl rfl hcall ?_
        rintro v w51 ⟨rfl, he51⟩
        clear hcall hx
        refine ⟨.inl rfl, ?_⟩
        have hst := Stp.ext (ls := [[b0_3], M]) he51
        replace hf3_1 := he51.box hf3_1 (fun h => by cases h)
        replace hf3_2 := hf3_2.step hst
        replace hms := hms.ev he51
        replace hev := hev.ext he51
        refine x_end rfl ?_
        refine k_then ?_
        refine c_norm [(3, .pointer (some ⟨b0_3, 0, none⟩)), (4, .int .i64 x6.1), (5, .int .i64 x6.2.1), (6, .int .i64 x8.1), (7, .int .i64 x10.1), (8, .int .i64 x10.2), (9, .int .i64 x10.1), (10, .int .i64 x_s10), (59, .bool x50)] ⟨rfl, rfl, rfl, rfl, rfl, rfl, rfl, rfl, rfl, trivial⟩ (fun J => ?_)
        refine c_cond x50 rfl (fun hb => ?_) (fun hb => ?_)
        · replace h := ite_t hb h
          refine c_seq ?_
          refine c_plain ?_
          refine x_pure 1 [(2, .bool false)] _ _ _ (by kernel_rfl) ?_
          refine x_end rfl ?_
          refine k_then ?_
          refine c_norm [(2, .bool false)] ⟨rfl, trivial⟩ (fun J => ?_)
          refine c_ret ?_
          refine k_block_ret ?_
          refine k_then_ret ?_
          have hx := some_inj h
          subst hx
          have hy := some_inj hn49
          subst hy
          replace h := h49
          refine k_then_ret ?_
          refine k_block_ret ?_
          refine k_then_ret ?_
          refine r_ret (r_one (.bool false) rfl ?_)
          have hx := some_inj h
          subst hx
          have hsu : ∀ x ∈ fl [M], x ∈ fl [[b0_3], M] := fl_right (loc := [[b0_3]]) (par := [M])
          exact ⟨rfl, hev⟩
        · replace h := ite_f hb h
          refine c_skip ?_
          refine k_block ?_
          refine k_then ?_
          refine c_norm [(3, .pointer (some ⟨b0_3, 0, none⟩)), (4, .int .i64 x6.1), (5, .int .i64 x6.2.1), (6, .int .i64 x8.1), (7, .int .i64 x10.1), (8, .int .i64 x10.2), (9, .int .i64 x10.1), (10, .int .i64 x_s10)] ⟨rfl, rfl, rfl, rfl, rfl, rfl, rfl, rfl, trivial⟩ (fun J => ?_)
          refine c_plain ?_
          refine x_pure 3 [(54, .int .i64 x_s10), (55, .int .i64 (IntKind.i64.wrap (x_s10 + 1))), (10, .int .i64 (IntKind.i64.wrap (x_s10 + 1)))] _ _ _ (by kernel_rfl) ?_
          refine x_end rfl ?_
          have hx := some_inj h
          subst hx
          exact k_then ⟨(m49, IntKind.i64.wrap (x_s10 + 1)), ⟨rfl, rfl, rfl, rfl, rfl, rfl, rfl, rfl, trivial⟩, ⟨hn49, hev, hms, hfr, hf3_1, hf3_2⟩, Nat.lt_succ_self _⟩
      · replace h := ite_f hb h
        refine c_exit ?_
        refine k_then_exit ?_
        have hx := some_inj h
        subst hx
        have hy := some_inj hn49
        subst hy
        replace h := h49
        refine k_then_exit ?_
        refine k_block_in ?_
        refine k_then ?_
        refine c_norm [(3, .pointer (some ⟨b0_3, 0, none⟩)), (4, .int .i64 x6.1), (5, .int .i64 x6.2.1), (6, .int .i64 x8.1), (7, .int .i64 x10.1), (8, .int .i64 x10.2)] ⟨rfl, rfl, rfl, rfl, rfl, rfl, trivial⟩ (fun J => ?_)
        refine c_seq ?_
        refine c_plain ?_
        refine x_pure 2 [(60, .int .i64 x8.1), (61, .pointer (some ⟨b0_3, 0, none⟩))] _ _ _ (by kernel_rfl) ?_
        obtain ⟨x52, hx, h⟩ := bind_some h
        have hpk := hms.pick [some 0, some 1] [[b0_3], M] rfl
        have hsb : ∀ x ∈ fl [[b0_3], (fl [M])], x ∈ fl [[b0_3], M] := fun x hx => pick_sub [some 0, some 1] [[b0_3], M] rfl x (focus_sub (ls := [[b0_3], M]) 0 rfl x hx)
        have hcall := gen_Maker_Next_w b0_3 a1_3 c1_3 x2.1 x8.2 100 _ w49 (fl [M]) (hpk.focus 0 rfl) (hf3_2.sub hsb) hf3_1 hx
        refine x_call 11 #[] #[] [.pointer (some ⟨b0_3, 0, none⟩), .int .i64 100] _ rfl rfl rfl rfl hcall ?_
        rintro v w53 ⟨rfl, he53, hbn53⟩
        clear hcall hx
        refine ⟨.inl rfl, ?_⟩
        have hst := Stp.ev' (ls := [[b0_3], M]) he53 (mem_flat 0 rfl)
        replace hf3_2 := hf3_2.step hst
        replace hms := hms.ev he53
        replace hev := hev.then he53 (fun b hb => .inr (hfr.at 0 rfl b hb))
        replace hf3_1 := hbn53
        refine x_pure 2 [(63, .int .i64 (IntKind.i64.wrap (x8.1 + x52.1))), (11, .int .i64 (IntKind.i64.wrap (x8.1 + x52.1)))] _ _ _ (by kernel_rfl) ?_
        refine x_end rfl ?_
        refine k_then ?_
        refine c_norm [(4, .int .i64 x6.1), (5, .int .i64 x6.2.1), (7, .int .i64 x10.1), (8, .int .i64 x10.2), (11, .int .i64 (IntKind.i64.wrap (x8.1 + x52.1)))] ⟨rfl, rfl, rfl, rfl, rfl, trivial⟩ (fun J => ?_)
        refine c_seq ?_
        refine c_plain ?_
        refine x_pure 3 [(65, .int .i64 (IntKind.i64.wrap (x8.1 + x52.1))), (66, .int .i64 x6.1), (67, .int .i64 x6.2.1)] _ _ _ (by kernel_rfl) ?_
        obtain ⟨x54, hx, h⟩ := bind_some h
        have hcall := code_Next_w (IntKind.i64.wrap (x8.1 + x52.1)) x6.1 x6.2.1 _ w53 hx
        refine x_call 12 #[] #[] [.int .i64 (IntKind.i64.wrap (x8.1 + x52.1)), .int .i64 x6.1, .int .i64 x6.2.1] _ rfl rfl rfl rfl hcall ?_
        rintro v w55 ⟨rfl, he55⟩
        clear hcall hx
        refine ⟨.inl rfl, ?_⟩
        have hst := Stp.ext (ls := [[b0_3], M]) he55
        replace hf3_1 := he55.box hf3_1 (fun h => by cases h)
        replace hf3_2 := hf3_2.step hst
        replace hms := hms.ev he55
        replace hev := hev.ext he55
        refine x_pure 5 [(64, .tuple #[.int .i64 x54.1, .int .i64 x54.2]), (69, .int .i64 x54.1), (70, .int .i64 x54.2), (12, .int .i64 x54.1), (13, .int .i64 x54.2)] _ _ _ (by kernel_rfl) ?_
        refine x_end rfl ?_
        refine k_then ?_
        refine c_norm [(7, .int .i64 x10.1), (8, .int .i64 x10.2), (12, .int .i64 x54.1), (13, .int .i64 x54.2)] ⟨rfl, rfl, rfl, rfl, trivial⟩ (fun J => ?_)
        refine c_seq ?_
        refine c_plain ?_
        refine x_pure 3 [(71, .int .i64 x54.2), (72, .bool (x54.2 != 0)), (73, .bool (x54.2 != 0))] _ _ _ (by kernel_rfl) ?_
        refine x_split 73 (x54.2 != 0) rfl (fun hb => ?_) (fun hb => ?_)
        · replace h := ite_t hb h
          refine x_pure 9 [(74, undef), (75, undef), (76, undef), (77, undef), (78, undef), (79, undef), (80, undef), (81, .bool true), (82, .bool true)] _ _ _ (by kernel_rfl) ?_
          obtain ⟨x56, hx, h⟩ := bind_some h
          have hcall := law12_sane_w _ w55 hx
          refine x_call 14 #[] #[] [] _ rfl rfl rfl rfl hcall ?_
          rintro v w57 ⟨rfl, he57⟩
          clear hcall hx
          refine ⟨.inl rfl, ?_⟩
          have hst := Stp.ext (ls := [[b0_3], M]) he57
          replace hf3_1 := he57.box hf3_1 (fun h => by cases h)
          replace hf3_2 := hf3_2.step hst
          replace hms := hms.ev he57
          replace hev := hev.ext he57
          refine x_pure 2 [(84, .bool x56), (2, .bool x56)] _ _ _ (by kernel_rfl) ?_
          refine x_end rfl ?_
          refine k_then ?_
          refine c_norm [(2, .bool x56)] ⟨rfl, trivial⟩ (fun J => ?_)
          refine c_ret ?_
          refine r_ret (r_one (.bool x56) rfl ?_)
          have hx := some_inj h
          subst hx
          have hsu : ∀ x ∈ fl [M], x ∈ fl [[b0_3], M] := fl_right (loc := [[b0_3]]) (par := [M])
          exact ⟨rfl, hev⟩
        · replace h := ite_f hb h
          refine x_pure 3 [(74, .int .i64 x10.2), (75, .bool (x10.2 == 0)), (76, .bool (x10.2 == 0))] _ _ _ (by kernel_rfl) ?_
          refine x_split 76 (x10.2 == 0) rfl (fun hb => ?_) (fun hb => ?_)
          · replace h := ite_t hb h
            refine x_pure 6 [(77, .int .i64 x10.1), (78, .int .i64 x54.1), (79, .bool (decide (x10.1 ≤ x54.1))), (80, .bool (decide (x10.1 ≤ x54.1))), (81, .bool (decide (x10.1 ≤ x54.1))), (82, .bool (decide (x10.1 ≤ x54.1)))] _ _ _ (by kernel_rfl) ?_
            refine x_split 82 (decide (x10.1 ≤ x54.1)) rfl (fun hb => ?_) (fun hb => ?_)
            · replace h := ite_t hb h
              obtain ⟨x58, hx, h⟩ := bind_some h
              have hcall := law12_sane_w _ w55 hx
              refine x_call 14 #[] #[] [] _ rfl rfl rfl rfl hcall ?_
              rintro v w59 ⟨rfl, he59⟩
              clear hcall hx
              refine ⟨.inl rfl, ?_⟩
              have hst := Stp.ext (ls := [[b0_3], M]) he59
              replace hf3_1 := he59.box hf3_1 (fun h => by cases h)
              replace hf3_2 := hf3_2.step hst
              replace hms := hms.ev he59
              replace hev := hev.ext he59
              refine x_pure 2 [(84, .bool x58), (2, .bool x58)] _ _ _ (by kernel_rfl) ?_
              refine x_end rfl ?_
              refine k_then ?_
              refine c_norm [(2, .bool x58)] ⟨rfl, trivial⟩ (fun J => ?_)
              refine c_ret ?_
              refine r_ret (r_one (.bool x58) rfl ?_)
              have hx := some_inj h
              subst hx
              have hsu : ∀ x ∈ fl [M], x ∈ fl [[b0_3], M] := fl_right (loc := [[b0_3]]) (par := [M])
              exact ⟨rfl, hev⟩
            · replace h := ite_f hb h
              refine x_pure 3 [(83, undef), (84, .bool false), (2, .bool false)] _ _ _ (by kernel_rfl) ?_
              refine x_end rfl ?_
              refine k_then ?_
              refine c_norm [(2, .bool false)] ⟨rfl, trivial⟩ (fun J => ?_)
              refine c_ret ?_
              refine r_ret (r_one (.bool false) rfl ?_)
              have hx := some_inj h
              subst hx
              have hsu : ∀ x ∈ fl [M], x ∈ fl [[b0_3], M] := fl_right (loc := [[b0_3]]) (par := [M])
              exact ⟨rfl, hev⟩
          · replace h := ite_f hb h
            refine x_pure 9 [(77, undef), (78, undef), (79, undef), (80, .bool false), (81, .bool false), (82, .bool false), (83, undef), (84, .bool false), (2, .bool false)] _ _ _ (by kernel_rfl) ?_
            refine x_end rfl ?_
            refine k_then ?_
            refine c_norm [(2, .bool false)] ⟨rfl, trivial⟩ (fun J => ?_)
            refine c_ret ?_
            refine r_ret (r_one (.bool false) rfl ?_)
            have hx := some_inj h
            subst hx
            have hsu : ∀ x ∈ fl [M], x ∈ fl [[b0_3], M] := fl_right (loc := [[b0_3]]) (par := [M])
            exact ⟨rfl, hev⟩
end Go.Proofs.Ytjcikgeffhghkaa
