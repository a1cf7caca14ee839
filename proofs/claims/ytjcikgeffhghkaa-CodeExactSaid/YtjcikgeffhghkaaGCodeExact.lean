/- Walks, printed by program: each function returns what the partial function of the same name returns. Conditions: those of each theorem. -/
import Derived.Test.YtjcikgeffhghkaaGT
import Derived.Test.YtjcikgeffhghkaaGgen
import Derived.Test.YtjcikgeffhghkaaGlaw12
set_option linter.unusedVariables false
set_option maxRecDepth 4000
namespace Go.Proofs.Ytjcikgeffhghkaa
open Go Go.V Go.Proofs
def law12_CodeExact_L6 (x2 : ((List Int) × Int)) (s : Int × Int) : Option (Step (Int × Int) ((Bool × Int) ⊕ Int)) :=
match s with
| (i_s10, e4_1g6) =>
(if (decide (i_s10 < 3)) = true then
((gen_Maker_Next x2.1 e4_1g6 4100).bind fun x7 =>
((gen_Maker_Next x2.1 x7.2 64).bind fun x9 =>
((gen_Maker_Next x2.1 x9.2 14).bind fun x11 =>
((gen_Maker_Pick x2.1 x11.2 ([x7.1, x9.1, x11.1, (-1)])).bind fun x15 =>
((gen_Maker_Pick x2.1 x15.2 ([0, 0, 1, 2, 3, 5, 11, 12, 13, (-1)])).bind fun x19 =>
((gen_Maker_Pick x2.1 x19.2 ([0, 1, 2, 3, 12, 11, 13, (-1)])).bind fun x23 =>
((law12_exact x15.1 x19.1 x23.1).bind fun x25 =>
(if (!x25) = true then
some (.done (.inl (false, x23.2)))
else
some (.next (IntKind.i64.wrap (i_s10 + 1), x23.2))))))))))
else
some (.done (.inr e4_1g6)))

def law12_CodeExact (v_t_0 : List Int) (n_1 : Int) (round_2 : Int) (weight_3 : Int) : Option Bool :=
((gen_New v_t_0).bind fun x2 =>
((loop (law12_CodeExact_L6 x2) (0, x2.2)).bind fun d => match d with
| (.inl (t8__x8, e4_1x)) => some t8__x8
| (.inr e4_1x) => ((law12_exact n_1 round_2 weight_3).bind fun x27 =>
(if x27 = true then
((law12_exact (Int.tmod n_1 5000) (Int.tmod round_2 14) (Int.tmod weight_3 14)).bind fun x29 =>
(if x29 = true then
((law12_sane).bind fun x31 =>
some x31)
else
some false))
else
some false))))

theorem law12_CodeExact_w (a_v_t_0 : Option Addr) (c_v_t_0 : Nat) (v_t_0 : List Int) (n_1 : Int) (round_2 : Int) (weight_3 : Int) (r : Bool) (w : World) (M : List Nat) (hms : MS w [M]) (hs_v_t_0 : SlR (eInt .i64) w (fl [M]) a_v_t_0 c_v_t_0 v_t_0) (h : law12_CodeExact v_t_0 n_1 round_2 weight_3 = some r) : CallVC Try.prog 8 [.slice a_v_t_0 (v_t_0).length c_v_t_0, .int .i64 n_1, .int .i64 round_2, .int .i64 weight_3] w fun v w' => v = .bool r ∧ Ev [] w w' := by
  refine calls_vc hmx Try.func8 (by kernel_rfl) rfl (rs := [.tmp 8]) rfl (by kernel_rfl) (args := [.slice a_v_t_0 (v_t_0).length c_v_t_0, .int .i64 n_1, .int .i64 round_2, .int .i64 weight_3]) rfl ?_
  have hev : Ev [] w w := Ev.refl _ _
  have hfr : FR w.heap.size [] := FR.nil _
  refine c_seq ?_
  refine c_plain ?_
  refine x_pure 1 [(8, .bool false)] _ _ _ (by kernel_rfl) ?_
  refine x_end rfl ?_
  refine k_then ?_
  refine c_norm [(0, .slice a_v_t_0 (v_t_0).length c_v_t_0), (1, .int .i64 n_1), (2, .int .i64 round_2), (3, .int .i64 weight_3)] ⟨rfl, rfl, rfl, rfl, trivial⟩ (fun J => ?_)
  refine c_seq ?_
  refine c_plain ?_
  refine x_pure 1 [(11, .slice a_v_t_0 (v_t_0).length c_v_t_0)] _ _ _ (by kernel_rfl) ?_
  obtain ⟨x2, hx, h⟩ := bind_some h
  have hpk := hms.pick [some 0] [M] rfl
  have hsb : ∀ x ∈ fl [(fl [M])], x ∈ fl [M] := fun x hx => pick_sub [some 0] [M] rfl x hx
  have hcall := gen_New_w a_v_t_0 c_v_t_0 v_t_0 _ w (fl [M]) (hpk.all) (hs_v_t_0.sub hsb) hx
  refine x_call 9 #[] #[] [.slice a_v_t_0 (v_t_0).length c_v_t_0] _ rfl rfl rfl rfl hcall ?_
  rintro v w3 ⟨b0_3, a1_3, c1_3, rfl, he3, hmn3, hfn3, hf3_1, hf3_2⟩
  clear hcall hx
  refine ⟨.inl rfl, ?_⟩
  have hst : Stp (fl [M]) w (fl [[b0_3], M]) w3 := Stp.join (res := [[b0_3]]) he3 (fun _ h => by cases h) hfn3
  replace hs_v_t_0 := hs_v_t_0.step hst
  replace hms : MS w3 [[b0_3], M] := hms.join he3 hmn3 hfn3
  replace hfr : FR w.heap.size [[b0_3]] := hfr.join hfn3 hev.size
  replace hev := hev.ext he3
  have hsp : ∀ x ∈ fl [[b0_3], M], x ∈ fl [[b0_3], (fl [M])] := fl_app [[b0_3]] (fun x hx => pick_sup [some 0] [M] rfl rfl x hx)
  replace hf3_2 := hf3_2.sub hsp
  refine x_pure 1 [(9, .pointer (some ⟨b0_3, 0, none⟩))] _ _ _ (by kernel_rfl) ?_
  refine x_end rfl ?_
  refine k_then ?_
  refine c_norm [(1, .int .i64 n_1), (2, .int .i64 round_2), (3, .int .i64 weight_3), (9, .pointer (some ⟨b0_3, 0, none⟩))] ⟨rfl, rfl, rfl, rfl, trivial⟩ (fun J => ?_)
  refine c_seq ?_
  refine c_seq ?_
  refine c_plain ?_
  refine x_pure 1 [(10, .int .i64 0)] _ _ _ (by kernel_rfl) ?_
  refine x_end rfl ?_
  refine k_then ?_
  refine c_norm [(1, .int .i64 n_1), (2, .int .i64 round_2), (3, .int .i64 weight_3), (9, .pointer (some ⟨b0_3, 0, none⟩)), (10, .int .i64 0)] ⟨rfl, rfl, rfl, rfl, rfl, trivial⟩ (fun J => ?_)
  refine c_block ?_
  obtain ⟨d6, hd6, h6⟩ := bind_some h
  obtain ⟨m6, hd6⟩ := loop_some hd6
  refine c_loop (loop_rule hmx (σ := Nat × Int × Int) (fun s => match s with | (_, i_s10, e4_1g6) => [(1, .int .i64 n_1), (2, .int .i64 round_2), (3, .int .i64 weight_3), (9, .pointer (some ⟨b0_3, 0, none⟩)), (10, .int .i64 i_s10)]) (fun s w' => match s with | (m, i_s10, e4_1g6) => loopN (law12_CodeExact_L6 x2) m (i_s10, e4_1g6) = some d6 ∧ Ev [] w w' ∧ MS w' [[b0_3], M] ∧ FR w.heap.size [[b0_3]] ∧ w'.heap[b0_3]? = some (.cells #[.slice a1_3 (x2.1).length c1_3, .int .i64 e4_1g6] 41 (0, 0)) ∧ SlR (eInt .i64) w' (fl [[b0_3], M]) a1_3 c1_3 x2.1) (fun s => s.1) (m6, 0, x2.2) ⟨rfl, rfl, rfl, rfl, rfl, trivial⟩ ⟨hd6, hev, hms, hfr, hf3_1, hf3_2⟩ ?_)
  rintro ⟨m6, i_s10, e4_1g6⟩ J w6 ⟨hn6, hev, hms, hfr, hf3_1, hf3_2⟩
  rcases m6 with _ | m6
  · exact (loopN_zero hn6).elim
  obtain ⟨t6, h, hn6⟩ := bind_some hn6
  refine c_seq ?_
  refine c_seq ?_
  refine c_plain ?_
  refine x_pure 2 [(13, .int .i64 i_s10), (14, .bool (decide (i_s10 < 3)))] _ _ _ (by kernel_rfl) ?_
  refine x_end rfl ?_
  refine k_then ?_
  refine c_norm [(1, .int .i64 n_1), (2, .int .i64 round_2), (3, .int .i64 weight_3), (9, .pointer (some ⟨b0_3, 0, none⟩)), (10, .int .i64 i_s10), (14, .bool (decide (i_s10 < 3)))] ⟨rfl, rfl, rfl, rfl, rfl, rfl, trivial⟩ (fun J => ?_)
  refine c_cond (decide (i_s10 < 3)) rfl (fun hb => ?_) (fun hb => ?_)
  · replace h := ite_t hb h
    refine c_skip ?_
    refine k_then ?_
    refine c_norm [(1, .int .i64 n_1), (2, .int .i64 round_2), (3, .int .i64 weight_3), (9, .pointer (some ⟨b0_3, 0, none⟩)), (10, .int .i64 i_s10)] ⟨rfl, rfl, rfl, rfl, rfl, trivial⟩ (fun J => ?_)
    refine c_seq ?_
    refine c_block ?_
    refine c_seq ?_
    refine c_plain ?_
    refine x_pure 2 [(17, .pointer (some ⟨b0_3, 0, none⟩)), (18, .pointer (some ⟨b0_3, 0, none⟩))] _ _ _ (by kernel_rfl) ?_
    obtain ⟨x7, hx, h⟩ := bind_some h
    have hpk := hms.pick [some 0, some 1] [[b0_3], M] rfl
    have hsb : ∀ x ∈ fl [[b0_3], (fl [M])], x ∈ fl [[b0_3], M] := fun x hx => pick_sub [some 0, some 1] [[b0_3], M] rfl x (focus_sub (ls := [[b0_3], M]) 0 rfl x hx)
    have hcall := gen_Maker_Next_w b0_3 a1_3 c1_3 x2.1 e4_1g6 4100 _ w6 (fl [M]) (hpk.focus 0 rfl) (hf3_2.sub hsb) hf3_1 hx
    refine x_call 11 #[] #[] [.pointer (some ⟨b0_3, 0, none⟩), .int .i64 4100] _ rfl rfl rfl rfl hcall ?_
    rintro v w8 ⟨rfl, he8, hbn8⟩
    clear hcall hx
    refine ⟨.inl rfl, ?_⟩
    have hst := Stp.ev' (ls := [[b0_3], M]) he8 (mem_flat 0 rfl)
    replace hf3_2 := hf3_2.step hst
    replace hms := hms.ev he8
    replace hev := hev.then he8 (fun b hb => .inr (hfr.at 0 rfl b hb))
    replace hf3_1 := hbn8
    refine x_pure 1 [(20, .pointer (some ⟨b0_3, 0, none⟩))] _ _ _ (by kernel_rfl) ?_
    obtain ⟨x9, hx, h⟩ := bind_some h
    have hpk := hms.pick [some 0, some 1] [[b0_3], M] rfl
    have hsb : ∀ x ∈ fl [[b0_3], (fl [M])], x ∈ fl [[b0_3], M] := fun x hx => pick_sub [some 0, some 1] [[b0_3], M] rfl x (focus_sub (ls := [[b0_3], M]) 0 rfl x hx)
    have hcall := gen_Maker_Next_w b0_3 a1_3 c1_3 x2.1 x7.2 64 _ w8 (fl [M]) (hpk.focus 0 rfl) (hf3_2.sub hsb) hf3_1 hx
    refine x_call 11 #[] #[] [.pointer (some ⟨b0_3, 0, none⟩), .int .i64 64] _ rfl rfl rfl rfl hcall ?_
    rintro v w10 ⟨rfl, he10, hbn10⟩
    clear hcall hx
    refine ⟨.inl rfl, ?_⟩
    have hst := Stp.ev' (ls := [[b0_3], M]) he10 (mem_flat 0 rfl)
    replace hf3_2 := hf3_2.step hst
    replace hms := hms.ev he10
    replace hev := hev.then he10 (fun b hb => .inr (hfr.at 0 rfl b hb))
    replace hf3_1 := hbn10
    refine x_pure 1 [(22, .pointer (some ⟨b0_3, 0, none⟩))] _ _ _ (by kernel_rfl) ?_
    obtain ⟨x11, hx, h⟩ := bind_some h
    have hpk := hms.pick [some 0, some 1] [[b0_3], M] rfl
    have hsb : ∀ x ∈ fl [[b0_3], (fl [M])], x ∈ fl [[b0_3], M] := fun x hx => pick_sub [some 0, some 1] [[b0_3], M] rfl x (focus_sub (ls := [[b0_3], M]) 0 rfl x hx)
    have hcall := gen_Maker_Next_w b0_3 a1_3 c1_3 x2.1 x9.2 14 _ w10 (fl [M]) (hpk.focus 0 rfl) (hf3_2.sub hsb) hf3_1 hx
    refine x_call 11 #[] #[] [.pointer (some ⟨b0_3, 0, none⟩), .int .i64 14] _ rfl rfl rfl rfl hcall ?_
    rintro v w12 ⟨rfl, he12, hbn12⟩
    clear hcall hx
    refine ⟨.inl rfl, ?_⟩
    have hst := Stp.ev' (ls := [[b0_3], M]) he12 (mem_flat 0 rfl)
    replace hf3_2 := hf3_2.step hst
    replace hms := hms.ev he12
    replace hev := hev.then he12 (fun b hb => .inr (hfr.at 0 rfl b hb))
    replace hf3_1 := hbn12
    refine x_buildSlice (vs := [(0, .int .i64 x7.1), (1, .int .i64 x9.1), (2, .int .i64 x11.1), (3, .int .i64 (-1))]) #[.int .i64 x7.1, .int .i64 x9.1, .int .i64 x11.1, .int .i64 (-1)] 3 rfl rfl rfl (by kernel_rfl) (fun b13 w13 hq13 hb13 he13 _ => ?_)
    refine ⟨.inl rfl, ?_⟩
    have hs13 : SlR (eInt .i64) w13 (fl [[b0_3], M]) (some ⟨b13, 0, none⟩) 4 ([x7.1, x9.1, x11.1, (-1)]) := ro_of_box hms hq13 hb13 rfl rfl (vals_at (Value.int .i64) rfl (fun _ _ _ => rfl) _ _ _)
    clear hb13
    have hst := Stp.ext (ls := [[b0_3], M]) he13
    replace hf3_1 := he13.box hf3_1 (fun h => by cases h)
    replace hf3_2 := hf3_2.step hst
    replace hms := hms.ev he13
    replace hev := hev.ext he13
    obtain ⟨x15, hx, h⟩ := bind_some h
    have hpk := hms.pick [some 0, some 1] [[b0_3], M] rfl
    have hsb : ∀ x ∈ fl [[b0_3], (fl [M])], x ∈ fl [[b0_3], M] := fun x hx => pick_sub [some 0, some 1] [[b0_3], M] rfl x (focus_sub (ls := [[b0_3], M]) 0 rfl x hx)
    have hcall := gen_Maker_Pick_w b0_3 a1_3 c1_3 x2.1 x11.2 (some ⟨b13, 0, none⟩) 4 ([x7.1, x9.1, x11.1, (-1)]) _ w13 (fl [M]) (hpk.focus 0 rfl) (hf3_2.sub hsb) hf3_1 (hs13.sub hsb) hx
    refine x_call 20 #[] #[] [.pointer (some ⟨b0_3, 0, none⟩), .slice (some ⟨b13, 0, none⟩) ([x7.1, x9.1, x11.1, (-1)]).length 4] _ rfl rfl rfl rfl hcall ?_
    rintro v w16 ⟨rfl, he16, hbn16⟩
    clear hcall hx
    refine ⟨.inl rfl, ?_⟩
    have hst := Stp.ev' (ls := [[b0_3], M]) he16 (mem_flat 0 rfl)
    replace hf3_2 := hf3_2.step hst
    replace hs13 := hs13.step hst
    replace hms := hms.ev he16
    replace hev := hev.then he16 (fun b hb => .inr (hfr.at 0 rfl b hb))
    replace hf3_1 := hbn16
    refine x_pure 1 [(26, .pointer (some ⟨b0_3, 0, none⟩))] _ _ _ (by kernel_rfl) ?_
    refine x_buildSlice (vs := [(0, .int .i64 0), (1, .int .i64 0), (2, .int .i64 1), (3, .int .i64 2), (4, .int .i64 3), (5, .int .i64 5), (6, .int .i64 11), (7, .int .i64 12), (8, .int .i64 13), (9, .int .i64 (-1))]) #[.int .i64 0, .int .i64 0, .int .i64 1, .int .i64 2, .int .i64 3, .int .i64 5, .int .i64 11, .int .i64 12, .int .i64 13, .int .i64 (-1)] 3 rfl rfl rfl (by kernel_rfl) (fun b17 w17 hq17 hb17 he17 _ => ?_)
    refine ⟨.inl rfl, ?_⟩
    have hs17 : SlR (eInt .i64) w17 (fl [[b0_3], M]) (some ⟨b17, 0, none⟩) 10 ([0, 0, 1, 2, 3, 5, 11, 12, 13, (-1)]) := ro_of_box hms hq17 hb17 rfl rfl (vals_at (Value.int .i64) rfl (fun _ _ _ => rfl) _ _ _)
    clear hb17
    have hst := Stp.ext (ls := [[b0_3], M]) he17
    replace hf3_1 := he17.box hf3_1 (fun h => by cases h)
    replace hf3_2 := hf3_2.step hst
    replace hs13 := hs13.step hst
    replace hms := hms.ev he17
    replace hev := hev.ext he17
    obtain ⟨x19, hx, h⟩ := bind_some h
    have hpk := hms.pick [some 0, some 1] [[b0_3], M] rfl
    have hsb : ∀ x ∈ fl [[b0_3], (fl [M])], x ∈ fl [[b0_3], M] := fun x hx => pick_sub [some 0, some 1] [[b0_3], M] rfl x (focus_sub (ls := [[b0_3], M]) 0 rfl x hx)
    have hcall := gen_Maker_Pick_w b0_3 a1_3 c1_3 x2.1 x15.2 (some ⟨b17, 0, none⟩) 10 ([0, 0, 1, 2, 3, 5, 11, 12, 13, (-1)]) _ w17 (fl [M]) (hpk.focus 0 rfl) (hf3_2.sub hsb) hf3_1 (hs17.sub hsb) hx
    refine x_call 20 #[] #[] [.pointer (some ⟨b0_3, 0, none⟩), .slice (some ⟨b17, 0, none⟩) ([0, 0, 1, 2, 3, 5, 11, 12, 13, (-1)]).length 10] _ rfl rfl rfl rfl hcall ?_
    rintro v w20 ⟨rfl, he20, hbn20⟩
    clear hcall hx
    refine ⟨.inl rfl, ?_⟩
    have hst := Stp.ev' (ls := [[b0_3], M]) he20 (mem_flat 0 rfl)
    replace hf3_2 := hf3_2.step hst
    replace hs13 := hs13.step hst
    replace hs17 := hs17.step hst
    replace hms := hms.ev he20
    replace hev := hev.then he20 (fun b hb => .inr (hfr.at 0 rfl b hb))
    replace hf3_1 := hbn20
    refine x_pure 1 [(29, .pointer (some ⟨b0_3, 0, none⟩))] _ _ _ (by kernel_rfl) ?_
    refine x_buildSlice (vs := [(0, .int .i64 0), (1, .int .i64 1), (2, .int .i64 2), (3, .int .i64 3), (4, .int .i64 12), (5, .int .i64 11), (6, .int .i64 13), (7, .int .i64 (-1))]) #[.int .i64 0, .int .i64 1, .int .i64 2, .int .i64 3, .int .i64 12, .int .i64 11, .int .i64 13, .int .i64 (-1)] 3 rfl rfl rfl (by kernel_rfl) (fun b21 w21 hq21 hb21 he21 _ => ?_)
    refine ⟨.inl rfl, ?_⟩
    have hs21 : SlR (eInt .i64) w21 (fl [[b0_3], M]) (some ⟨b21, 0, none⟩) 8 ([0, 1, 2, 3, 12, 11, 13, (-1)]) := ro_of_box hms hq21 hb21 rfl rfl (vals_at (Value.int .i64) rfl (fun _ _ _ => rfl) _ _ _)
    clear hb21
    have hst := Stp.ext (ls := [[b0_3], M]) he21
    replace hf3_1 := he21.box hf3_1 (fun h => by cases h)
    replace hf3_2 := hf3_2.step hst
    replace hs13 := hs13.step hst
    replace hs17 := hs17.step hst
    replace hms := hms.ev he21
    replace hev := hev.ext he21
    obtain ⟨x23, hx, h⟩ := bind_some h
    have hpk := hms.pick [some 0, some 1] [[b0_3], M] rfl
    have hsb : ∀ x ∈ fl [[b0_3], (fl [M])], x ∈ fl [[b0_3], M] := fun x hx => pick_sub [some 0, some 1] [[b0_3], M] rfl x (focus_sub (ls := [[b0_3], M]) 0 rfl x hx)
    have hcall := gen_Maker_Pick_w b0_3 a1_3 c1_3 x2.1 x19.2 (some ⟨b21, 0, none⟩) 8 ([0, 1, 2, 3, 12, 11, 13, (-1)]) _ w21 (fl [M]) (hpk.focus 0 rfl) (hf3_2.sub hsb) hf3_1 (hs21.sub hsb) hx
    refine x_call 20 #[] #[] [.pointer (some ⟨b0_3, 0, none⟩), .slice (some ⟨b21, 0, none⟩) ([0, 1, 2, 3, 12, 11, 13, (-1)]).length 8] _ rfl rfl rfl rfl hcall ?_
    rintro v w24 ⟨rfl, he24, hbn24⟩
    clear hcall hx
    refine ⟨.inl rfl, ?_⟩
    have hst := Stp.ev' (ls := [[b0_3], M]) he24 (mem_flat 0 rfl)
    replace hf3_2 := hf3_2.step hst
    replace hs13 := hs13.step hst
    replace hs17 := hs17.step hst
    replace hs21 := hs21.step hst
    replace hms := hms.ev he24
    replace hev := hev.then he24 (fun b hb => .inr (hfr.at 0 rfl b hb))
    replace hf3_1 := hbn24
    obtain ⟨x25, hx, h⟩ := bind_some h
    have hcall := law12_exact_w x15.1 x19.1 x23.1 _ w24 hx
    refine x_call 21 #[] #[] [.int .i64 x15.1, .int .i64 x19.1, .int .i64 x23.1] _ rfl rfl rfl rfl hcall ?_
    rintro v w26 ⟨rfl, he26⟩
    clear hcall hx
    refine ⟨.inl rfl, ?_⟩
    have hst := Stp.ext (ls := [[b0_3], M]) he26
    replace hf3_1 := he26.box hf3_1 (fun h => by cases h)
    replace hf3_2 := hf3_2.step hst
    replace hs13 := hs13.step hst
    replace hs17 := hs17.step hst
    replace hs21 := hs21.step hst
    replace hms := hms.ev he26
    replace hev := hev.ext he26
    refine x_pure 1 [(33, .bool (!x25))] _ _ _ (by kernel_rfl) ?_
    refine x_end rfl ?_
    refine k_then ?_
    refine c_norm [(1, .int .i64 n_1), (2, .int .i64 round_2), (3, .int .i64 weight_3), (9, .pointer (some ⟨b0_3, 0, none⟩)), (10, .int .i64 i_s10), (33, .bool (!x25))] ⟨rfl, rfl, rfl, rfl, rfl, rfl, trivial⟩ (fun J => ?_)
    refine c_cond (!x25) rfl (fun hb => ?_) (fun hb => ?_)
    · replace h := ite_t hb h
      refine c_seq ?_
      refine c_plain ?_
      refine x_pure 1 [(8, .bool false)] _ _ _ (by kernel_rfl) ?_
      refine x_end rfl ?_
      refine k_then ?_
      refine c_norm [(8, .bool false)] ⟨rfl, trivial⟩ (fun J => ?_)
      refine c_ret ?_
      refine k_block_ret ?_
      refine k_then_ret ?_
      have hx := some_inj h
      subst hx
      have hy := some_inj hn6
      subst hy
      replace h := h6
      refine k_then_ret ?_
      refine k_block_ret ?_
      refine k_then_ret ?_
      refine r_ret (r_one (.bool false) rfl ?_)
      have hx := some_inj h
      subst hx
      have hsu : ∀ x ∈ fl [M], x ∈ fl [[b0_3], M] := fl_right (loc := [[b0_3]]) (par := [M])
      exact ⟨rfl, hev⟩
    · replace h := ite_f hb h
      refine c_skip ?_
      refine k_block ?_
      refine k_then ?_
      refine c_norm [(1, .int .i64 n_1), (2, .int .i64 round_2), (3, .int .i64 weight_3), (9, .pointer (some ⟨b0_3, 0, none⟩)), (10, .int .i64 i_s10)] ⟨rfl, rfl, rfl, rfl, rfl, trivial⟩ (fun J => ?_)
      refine c_plain ?_
      refine x_pure 3 [(15, .int .i64 i_s10), (16, .int .i64 (IntKind.i64.wrap (i_s10 + 1))), (10, .int .i64 (IntKind.i64.wrap (i_s10 + 1)))] _ _ _ (by kernel_rfl) ?_
      refine x_end rfl ?_
      have hx := some_inj h
      subst hx
      exact k_then ⟨(m6, IntKind.i64.wrap (i_s10 + 1), x23.2), ⟨rfl, rfl, rfl, rfl, rfl, trivial⟩, ⟨hn6, hev, hms, hfr, hf3_1, hf3_2⟩, Nat.lt_succ_self _⟩
  · replace h := ite_f hb h
    refine c_exit ?_
    refine k_then_exit ?_
    have hx := some_inj h
    subst hx
    have hy := some_inj hn6
    subst hy
    replace h := h6
    refine k_then_exit ?_
    refine k_block_in ?_
    refine k_then ?_
    refine c_norm [(1, .int .i64 n_1), (2, .int .i64 round_2), (3, .int .i64 weight_3)] ⟨rfl, rfl, rfl, trivial⟩ (fun J => ?_)
    refine c_seq ?_
    refine c_plain ?_
    refine x_pure 3 [(34, .int .i64 n_1), (35, .int .i64 round_2), (36, .int .i64 weight_3)] _ _ _ (by kernel_rfl) ?_
    obtain ⟨x27, hx, h⟩ := bind_some h
    have hcall := law12_exact_w n_1 round_2 weight_3 _ w6 hx
    refine x_call 21 #[] #[] [.int .i64 n_1, .int .i64 round_2, .int .i64 weight_3] _ rfl rfl rfl rfl hcall ?_
    rintro v w28 ⟨rfl, he28⟩
    clear hcall hx
    refine ⟨.inl rfl, ?_⟩
    have hst := Stp.ext (ls := [[b0_3], M]) he28
    replace hf3_1 := he28.box hf3_1 (fun h => by cases h)
    replace hf3_2 := hf3_2.step hst
    replace hms := hms.ev he28
    replace hev := hev.ext he28
    refine x_pure 1 [(38, .bool x27)] _ _ _ (by kernel_rfl) ?_
    refine x_split 38 x27 rfl (fun hb => ?_) (fun hb => ?_)
    · replace h := ite_t hb h
      refine x_pure 6 [(39, .int .i64 n_1), (40, .int .i64 (Int.tmod n_1 5000)), (41, .int .i64 round_2), (42, .int .i64 (Int.tmod round_2 14)), (43, .int .i64 weight_3), (44, .int .i64 (Int.tmod weight_3 14))] _ _ _ (by kernel_rfl) ?_
      obtain ⟨x29, hx, h⟩ := bind_some h
      have hcall := law12_exact_w (Int.tmod n_1 5000) (Int.tmod round_2 14) (Int.tmod weight_3 14) _ w28 hx
      refine x_call 21 #[] #[] [.int .i64 (Int.tmod n_1 5000), .int .i64 (Int.tmod round_2 14), .int .i64 (Int.tmod weight_3 14)] _ rfl rfl rfl rfl hcall ?_
      rintro v w30 ⟨rfl, he30⟩
      clear hcall hx
      refine ⟨.inl rfl, ?_⟩
      have hst := Stp.ext (ls := [[b0_3], M]) he30
      replace hf3_1 := he30.box hf3_1 (fun h => by cases h)
      replace hf3_2 := hf3_2.step hst
      replace hms := hms.ev he30
      replace hev := hev.ext he30
      refine x_pure 2 [(46, .bool x29), (47, .bool x29)] _ _ _ (by kernel_rfl) ?_
      refine x_split 47 x29 rfl (fun hb => ?_) (fun hb => ?_)
      · replace h := ite_t hb h
        obtain ⟨x31, hx, h⟩ := bind_some h
        have hcall := law12_sane_w _ w30 hx
        refine x_call 14 #[] #[] [] _ rfl rfl rfl rfl hcall ?_
        rintro v w32 ⟨rfl, he32⟩
        clear hcall hx
        refine ⟨.inl rfl, ?_⟩
        have hst := Stp.ext (ls := [[b0_3], M]) he32
        replace hf3_1 := he32.box hf3_1 (fun h => by cases h)
        replace hf3_2 := hf3_2.step hst
        replace hms := hms.ev he32
        replace hev := hev.ext he32
        refine x_pure 2 [(49, .bool x31), (8, .bool x31)] _ _ _ (by kernel_rfl) ?_
        refine x_end rfl ?_
        refine k_then ?_
        refine c_norm [(8, .bool x31)] ⟨rfl, trivial⟩ (fun J => ?_)
        refine c_ret ?_
        refine r_ret (r_one (.bool x31) rfl ?_)
        have hx := some_inj h
        subst hx
        have hsu : ∀ x ∈ fl [M], x ∈ fl [[b0_3], M] := fl_right (loc := [[b0_3]]) (par := [M])
        exact ⟨rfl, hev⟩
      · replace h := ite_f hb h
        refine x_pure 3 [(48, undef), (49, .bool false), (8, .bool false)] _ _ _ (by kernel_rfl) ?_
        refine x_end rfl ?_
        refine k_then ?_
        refine c_norm [(8, .bool false)] ⟨rfl, trivial⟩ (fun J => ?_)
        refine c_ret ?_
        refine r_ret (r_one (.bool false) rfl ?_)
        have hx := some_inj h
        subst hx
        have hsu : ∀ x ∈ fl [M], x ∈ fl [[b0_3], M] := fl_right (loc := [[b0_3]]) (par := [M])
        exact ⟨rfl, hev⟩
    · replace h := ite_f hb h
      refine x_pure 12 [(39, undef), (40, undef), (41, undef), (42, undef), (43, undef), (44, undef), (45, undef), (46, .bool false), (47, .bool false), (48, undef), (49, .bool false), (8, .bool false)] _ _ _ (by kernel_rfl) ?_
      refine x_end rfl ?_
      refine k_then ?_
      refine c_norm [(8, .bool false)] ⟨rfl, trivial⟩ (fun J => ?_)
      refine c_ret ?_
      refine r_ret (r_one (.bool false) rfl ?_)
      have hx := some_inj h
      subst hx
      have hsu : ∀ x ∈ fl [M], x ∈ fl [[b0_3], M] := fl_right (loc := [[b0_3]]) (par := [M])
      exact ⟨rfl, hev⟩
end Go.Proofs.Ytjcikgeffhghkaa
