
/- Walks, printed by program: each function returns what the partial function of the same name returns. Conditions: those of each theorem. -/
import Derived.Test.YtgeceohdppecgaaGT
import Derived.Test.YtgeceohdppecgaaGgen
import Derived.Test.YtgeceohdppecgaaGr42
set_option linter.unusedVariables false
set_option linter.unusedSimpArgs false
set_option maxRecDepth 4000
namespace Go.Proofs.Ytgeceohdppecgaa
open Go Go.V Go.Proofs
def law42_shift (p0_0 : List Int) (p0_1 : Int) (p1 : List Int) (p2 : List (List Int)) : Option ((Int × Int × Int × Bool) × Int) :=
((gen_Maker_Next p0_0 p0_1 (IntKind.i64.wrap (((p1).length : Int) + 1))).bind fun x7 =>
((gen_Maker_Next p0_0 x7.2 (IntKind.i64.wrap (((p2).length : Int) + 1))).bind fun x9 =>
((gen_Maker_Next p0_0 x9.2 (IntKind.i64.wrap (((p2).length : Int) + 1))).bind fun x11 =>
((gen_Maker_Next p0_0 x11.2 3).bind fun x13 =>
((gen_Maker_Next p0_0 x13.2 5).bind fun x18 =>
(if (decide (x18.1 > 0)) = true then
((r42_Where p2 x7.1).bind fun x20 =>
some ((x7.1, x20.1, IntKind.i64.wrap (x11.1 - 1), x13.1 == 0), x18.2))
else
some ((x7.1, IntKind.i64.wrap (x9.1 - 1), IntKind.i64.wrap (x11.1 - 1), x13.1 == 0), x18.2)))))))

theorem law42_shift_w (b_p0 : Nat) (a_p0_0 : Option Addr) (c_p0_0 : Nat) (p0_0 : List Int) (p0_1 : Int) (a_p1 : Option Addr) (c_p1 : Nat) (p1 : List Int) (a_p2 : Option Addr) (c_p2 : Nat) (p2 : List (List Int)) (r : (Int × Int × Int × Bool) × Int) (w : World) (M : List Nat) (hms : MS w [[b_p0], M]) (hs_p0_0 : SlR (eInt .i64) w (fl [[b_p0], M]) a_p0_0 c_p0_0 p0_0) (hb_p0 : w.heap[b_p0]? = some (.cells #[Vl a_p0_0 p0_0 c_p0_0, Vi p0_1] 52 (0, 0))) (hs_p1 : SlR (eInt .i64) w (fl [[b_p0], M]) a_p1 c_p1 p1) (hs_p2 : SlR (eSl (eInt .i64)) w (fl [[b_p0], M]) a_p2 c_p2 p2) (h : law42_shift p0_0 p0_1 p1 p2 = some r) : CallVC Try.prog 8 [Vp b_p0 0, Vl a_p1 p1 c_p1, Vl a_p2 p2 c_p2] w fun v w' => v = .agg #[Vi r.1.1, Vi r.1.2.1, Vi r.1.2.2.1, .bool r.1.2.2.2] ∧ Ev [b_p0] w w' ∧ w'.heap[b_p0]? = some (.cells #[Vl a_p0_0 p0_0 c_p0_0, Vi r.2] 52 (0, 0)) := by
 refine calls_vc hmx Try.func8 (by kernel_rfl) rfl (rs := [.cell 6 30]) rfl (by kernel_rfl) (args := [Vp b_p0 0, Vl a_p1 p1 c_p1, Vl a_p2 p2 c_p2]) rfl ?_
 have hev : Ev [b_p0] w w := Ev.refl _ _
 have hfr : FR w.heap.size [] := FR.nil _
 refine c_sp ?_
 refine x_alloc (z := .agg #[Vi 0, Vi 0, Vi 0, .bool false]) rfl rfl (by kernel_rfl) (fun b5 w5 hq5 hb5 he5 hz5 => ?_)
 replace hb5 : w5.heap[b5]? = some (.cells #[Vi 0, Vi 0, Vi 0, .bool false] 30 (0, 0)) := hb5
 refine inl1 ?_
 have hst := Stp.box (ls := [[b_p0], M]) he5 hq5
 replace hs_p0_0 := hs_p0_0.step hst
 replace hb_p0 := he5.box hb_p0 nn
 replace hs_p1 := hs_p1.step hst
 replace hs_p2 := hs_p2.step hst
 replace hms := hms.box he5 hq5 hb5
 replace hfr := hfr.box hev.size hq5
 replace hev := hev.ext he5
 refine x_ek ?_
 refine c_sp ?_
 refine x_u 2 [(8, Vp b_p0 0), (9, Vl a_p1 p1 c_p1)] ?_
 refine x_len (vs := [Vl a_p1 p1 c_p1]) (Vi ((p1).length : Int)) rfl rfl rfl (reads_len tsl22 _ _ _ _ _) ?_
 refine x_u 1 [(11, Vi (IntKind.i64.wrap (((p1).length : Int) + 1)))] ?_
 obtain ⟨x7, hx, h⟩ := bind_some h
 have hpk : MS w5 ([[b_p0]] ++ [[b5], M]) := hms.pick [some 1, some 0, some 2] _ rfl
 have hsb0 : ∀ x ∈ fl ([[b_p0]] ++ [[b5], M]), x ∈ fl [[b5], [b_p0], M] := pick_sub [some 1, some 0, some 2] _ rfl
 have hsb : ∀ x ∈ fl ([[b_p0]] ++ [(fl [[b5], M])]), x ∈ fl [[b5], [b_p0], M] := fun x hx => hsb0 x (fl_unfold x hx)
 have hcall := gen_Maker_Next_w b_p0 a_p0_0 c_p0_0 p0_0 p0_1 (IntKind.i64.wrap (((p1).length : Int) + 1)) _ w5 (fl [[b5], M]) (hpk.fold (P := [[b_p0]])) (hs_p0_0.sub hsb) hb_p0 hx
 refine x_call 14 #[] #[] [Vp b_p0 0, Vi (IntKind.i64.wrap (((p1).length : Int) + 1))] _ rfl rfl rfl rfl hcall ?_
 rintro v w8 ⟨rfl, he8, hp8_0⟩
 clear hcall hx
 refine inl1 ?_
 have hpk2 : MS w5 ([[b_p0]] ++ [[b5], M]) := hms.pick [some 1, some 0, some 2] _ rfl
 have hsb2 : ∀ x ∈ fl ([[b_p0]] ++ [[b5], M]), x ∈ fl [[b5], [b_p0], M] := pick_sub [some 1, some 0, some 2] _ rfl
 have hst0 := Stp.call (LS := [[b5], [b_p0], M]) (res := []) (par := [[b_p0]]) (R := [[b5], M]) he8 (fun b hb => hsb2 b (fl_left' (P := [[b_p0]]) b hb)) (FR.nil _) (NP.init _ _) (fun x hx => hsb2 x (fl_right' (P := [[b_p0]]) x hx))
 have hsn : ∀ x ∈ fl [[b5], [b_p0], M], x ∈ fl ([] ++ ([[b_p0]] ++ [[b5], M])) := pick_sub [some 1, some 0, some 2] _ rfl
 have hst := hst0.res hsn
 replace hs_p0_0 := hs_p0_0.step hst
 replace hs_p1 := hs_p1.step hst
 replace hs_p2 := hs_p2.step hst
 replace hb5 := he8.box hb5 ((MS.outs (P := [[b_p0]]) hpk2 0 rfl) _ mem1)
 replace hms := hms.ev he8
 replace hev := hev.then he8 (fun b hb => .inl (by simpa using hb))
 replace hb_p0 := hp8_0
 clear hpk hsb hsb0 hpk2 hsb2 hst0 hsn hst
 refine x_u 2 [(13, Vp b_p0 0), (14, Vl a_p2 p2 c_p2)] ?_
 refine x_len (vs := [Vl a_p2 p2 c_p2]) (Vi ((p2).length : Int)) rfl rfl rfl (reads_len tsl26 _ _ _ _ _) ?_
 refine x_u 1 [(16, Vi (IntKind.i64.wrap (((p2).length : Int) + 1)))] ?_
 obtain ⟨x9, hx, h⟩ := bind_some h
 have hpk : MS w8 ([[b_p0]] ++ [[b5], M]) := hms.pick [some 1, some 0, some 2] _ rfl
 have hsb0 : ∀ x ∈ fl ([[b_p0]] ++ [[b5], M]), x ∈ fl [[b5], [b_p0], M] := pick_sub [some 1, some 0, some 2] _ rfl
 have hsb : ∀ x ∈ fl ([[b_p0]] ++ [(fl [[b5], M])]), x ∈ fl [[b5], [b_p0], M] := fun x hx => hsb0 x (fl_unfold x hx)
 have hcall := gen_Maker_Next_w b_p0 a_p0_0 c_p0_0 p0_0 x7.2 (IntKind.i64.wrap (((p2).length : Int) + 1)) _ w8 (fl [[b5], M]) (hpk.fold (P := [[b_p0]])) (hs_p0_0.sub hsb) hb_p0 hx
 refine x_call 14 #[] #[] [Vp b_p0 0, Vi (IntKind.i64.wrap (((p2).length : Int) + 1))] _ rfl rfl rfl rfl hcall ?_
 rintro v w10 ⟨rfl, he10, hp10_0⟩
 clear hcall hx
 refine inl1 ?_
 have hpk2 : MS w8 ([[b_p0]] ++ [[b5], M]) := hms.pick [some 1, some 0, some 2] _ rfl
 have hsb2 : ∀ x ∈ fl ([[b_p0]] ++ [[b5], M]), x ∈ fl [[b5], [b_p0], M] := pick_sub [some 1, some 0, some 2] _ rfl
 have hst0 := Stp.call (LS := [[b5], [b_p0], M]) (res := []) (par := [[b_p0]]) (R := [[b5], M]) he10 (fun b hb => hsb2 b (fl_left' (P := [[b_p0]]) b hb)) (FR.nil _) (NP.init _ _) (fun x hx => hsb2 x (fl_right' (P := [[b_p0]]) x hx))
 have hsn : ∀ x ∈ fl [[b5], [b_p0], M], x ∈ fl ([] ++ ([[b_p0]] ++ [[b5], M])) := pick_sub [some 1, some 0, some 2] _ rfl
 have hst := hst0.res hsn
 replace hs_p0_0 := hs_p0_0.step hst
 replace hs_p1 := hs_p1.step hst
 replace hs_p2 := hs_p2.step hst
 replace hb5 := he10.box hb5 ((MS.outs (P := [[b_p0]]) hpk2 0 rfl) _ mem1)
 replace hms := hms.ev he10
 replace hev := hev.then he10 (fun b hb => .inl (by simpa using hb))
 replace hb_p0 := hp10_0
 clear hpk hsb hsb0 hpk2 hsb2 hst0 hsn hst
 refine x_u 3 [(18, Vi (IntKind.i64.wrap (x9.1 - 1))), (19, Vp b_p0 0), (20, Vl a_p2 p2 c_p2)] ?_
 refine x_len (vs := [Vl a_p2 p2 c_p2]) (Vi ((p2).length : Int)) rfl rfl rfl (reads_len tsl26 _ _ _ _ _) ?_
 refine x_u 1 [(22, Vi (IntKind.i64.wrap (((p2).length : Int) + 1)))] ?_
 obtain ⟨x11, hx, h⟩ := bind_some h
 have hpk : MS w10 ([[b_p0]] ++ [[b5], M]) := hms.pick [some 1, some 0, some 2] _ rfl
 have hsb0 : ∀ x ∈ fl ([[b_p0]] ++ [[b5], M]), x ∈ fl [[b5], [b_p0], M] := pick_sub [some 1, some 0, some 2] _ rfl
 have hsb : ∀ x ∈ fl ([[b_p0]] ++ [(fl [[b5], M])]), x ∈ fl [[b5], [b_p0], M] := fun x hx => hsb0 x (fl_unfold x hx)
 have hcall := gen_Maker_Next_w b_p0 a_p0_0 c_p0_0 p0_0 x9.2 (IntKind.i64.wrap (((p2).length : Int) + 1)) _ w10 (fl [[b5], M]) (hpk.fold (P := [[b_p0]])) (hs_p0_0.sub hsb) hb_p0 hx
 refine x_call 14 #[] #[] [Vp b_p0 0, Vi (IntKind.i64.wrap (((p2).length : Int) + 1))] _ rfl rfl rfl rfl hcall ?_
 rintro v w12 ⟨rfl, he12, hp12_0⟩
 clear hcall hx
 refine inl1 ?_
 have hpk2 : MS w10 ([[b_p0]] ++ [[b5], M]) := hms.pick [some 1, some 0, some 2] _ rfl
 have hsb2 : ∀ x ∈ fl ([[b_p0]] ++ [[b5], M]), x ∈ fl [[b5], [b_p0], M] := pick_sub [some 1, some 0, some 2] _ rfl
 have hst0 := Stp.call (LS := [[b5], [b_p0], M]) (res := []) (par := [[b_p0]]) (R := [[b5], M]) he12 (fun b hb => hsb2 b (fl_left' (P := [[b_p0]]) b hb)) (FR.nil _) (NP.init _ _) (fun x hx => hsb2 x (fl_right' (P := [[b_p0]]) x hx))
 have hsn : ∀ x ∈ fl [[b5], [b_p0], M], x ∈ fl ([] ++ ([[b_p0]] ++ [[b5], M])) := pick_sub [some 1, some 0, some 2] _ rfl
 have hst := hst0.res hsn
 replace hs_p0_0 := hs_p0_0.step hst
 replace hs_p1 := hs_p1.step hst
 replace hs_p2 := hs_p2.step hst
 replace hb5 := he12.box hb5 ((MS.outs (P := [[b_p0]]) hpk2 0 rfl) _ mem1)
 replace hms := hms.ev he12
 replace hev := hev.then he12 (fun b hb => .inl (by simpa using hb))
 replace hb_p0 := hp12_0
 clear hpk hsb hsb0 hpk2 hsb2 hst0 hsn hst
 refine x_u 2 [(24, Vi (IntKind.i64.wrap (x11.1 - 1))), (25, Vp b_p0 0)] ?_
 obtain ⟨x13, hx, h⟩ := bind_some h
 have hpk : MS w12 ([[b_p0]] ++ [[b5], M]) := hms.pick [some 1, some 0, some 2] _ rfl
 have hsb0 : ∀ x ∈ fl ([[b_p0]] ++ [[b5], M]), x ∈ fl [[b5], [b_p0], M] := pick_sub [some 1, some 0, some 2] _ rfl
 have hsb : ∀ x ∈ fl ([[b_p0]] ++ [(fl [[b5], M])]), x ∈ fl [[b5], [b_p0], M] := fun x hx => hsb0 x (fl_unfold x hx)
 have hcall := gen_Maker_Next_w b_p0 a_p0_0 c_p0_0 p0_0 x11.2 3 _ w12 (fl [[b5], M]) (hpk.fold (P := [[b_p0]])) (hs_p0_0.sub hsb) hb_p0 hx
 refine x_call 14 #[] #[] [Vp b_p0 0, Vi 3] _ rfl rfl rfl rfl hcall ?_
 rintro v w14 ⟨rfl, he14, hp14_0⟩
 clear hcall hx
 refine inl1 ?_
 have hpk2 : MS w12 ([[b_p0]] ++ [[b5], M]) := hms.pick [some 1, some 0, some 2] _ rfl
 have hsb2 : ∀ x ∈ fl ([[b_p0]] ++ [[b5], M]), x ∈ fl [[b5], [b_p0], M] := pick_sub [some 1, some 0, some 2] _ rfl
 have hst0 := Stp.call (LS := [[b5], [b_p0], M]) (res := []) (par := [[b_p0]]) (R := [[b5], M]) he14 (fun b hb => hsb2 b (fl_left' (P := [[b_p0]]) b hb)) (FR.nil _) (NP.init _ _) (fun x hx => hsb2 x (fl_right' (P := [[b_p0]]) x hx))
 have hsn : ∀ x ∈ fl [[b5], [b_p0], M], x ∈ fl ([] ++ ([[b_p0]] ++ [[b5], M])) := pick_sub [some 1, some 0, some 2] _ rfl
 have hst := hst0.res hsn
 replace hs_p0_0 := hs_p0_0.step hst
 replace hs_p1 := hs_p1.step hst
 replace hs_p2 := hs_p2.step hst
 replace hb5 := he14.box hb5 ((MS.outs (P := [[b_p0]]) hpk2 0 rfl) _ mem1)
 replace hms := hms.ev he14
 replace hev := hev.then he14 (fun b hb => .inl (by simpa using hb))
 replace hb_p0 := hp14_0
 clear hpk hsb hsb0 hpk2 hsb2 hst0 hsn hst
 refine x_u 1 [(27, .bool (x13.1 == 0))] ?_
 refine x_build (vs := [(0, Vi x7.1), (1, Vi (IntKind.i64.wrap (x9.1 - 1))), (2, Vi (IntKind.i64.wrap (x11.1 - 1))), (3, .bool (x13.1 == 0))]) (.agg #[Vi x7.1, Vi (IntKind.i64.wrap (x9.1 - 1)), Vi (IntKind.i64.wrap (x11.1 - 1)), .bool (x13.1 == 0)]) rfl rfl rfl (fun _ _ => by kernel_rfl) ?_
 refine x_alloc (z := .agg #[Vi 0, Vi 0, Vi 0, .bool false]) rfl rfl (by kernel_rfl) (fun b15 w15 hq15 hb15 he15 hz15 => ?_)
 replace hb15 : w15.heap[b15]? = some (.cells #[Vi 0, Vi 0, Vi 0, .bool false] 30 (0, 0)) := hb15
 refine inl1 ?_
 have hst := Stp.box (ls := [[b5], [b_p0], M]) he15 hq15
 replace hs_p0_0 := hs_p0_0.step hst
 replace hb_p0 := he15.box hb_p0 nn
 replace hs_p1 := hs_p1.step hst
 replace hs_p2 := hs_p2.step hst
 replace hb5 := he15.box hb5 nn
 replace hms := hms.box he15 hq15 hb15
 replace hfr := hfr.box hev.size hq15
 replace hev := hev.ext he15
 obtain ⟨w17, hr17, hb17, he17⟩ := store_boxagg 0 [Vi x7.1, Vi (IntKind.i64.wrap (x9.1 - 1)), Vi (IntKind.i64.wrap (x11.1 - 1)), .bool (x13.1 == 0)] #[Vi x7.1, Vi (IntKind.i64.wrap (x9.1 - 1)), Vi (IntKind.i64.wrap (x11.1 - 1)), .bool (x13.1 == 0)] tagg30 hb15 rfl rfl rfl
 refine x_store w17 (xv := Vp b15 0) (yv := .agg #[Vi x7.1, Vi (IntKind.i64.wrap (x9.1 - 1)), Vi (IntKind.i64.wrap (x11.1 - 1)), .bool (x13.1 == 0)]) rfl rfl rfl rfl hr17 ?_
 refine inl1 ?_
 have hst := Stp.ev' (ls := [[b15], [b5], [b_p0], M]) he17 (mem_flat 0 rfl)
 replace hs_p0_0 := hs_p0_0.step hst
 replace hb_p0 := he17.box hb_p0 (hms.apart 2 0 rfl rfl rfl _ mem1)
 replace hs_p1 := hs_p1.step hst
 replace hs_p2 := hs_p2.step hst
 replace hb5 := he17.box hb5 (hms.apart 1 0 rfl rfl rfl _ mem1)
 replace hms := hms.ev he17
 replace hev := hev.then he17 (fun b hb => .inr (hfr.at 0 rfl b hb))
 replace hb15 := hb17
 refine x_ek ?_
 refine c_norm [(0, Vp b_p0 0), (2, Vl a_p2 p2 c_p2), (6, Vp b5 0), (7, Vp b15 0)] ⟨rfl, rfl, rfl, rfl, trivial⟩ (fun J => ?_)
 refine c_seq ?_
 refine c_sp ?_
 refine x_u 1 [(29, Vp b_p0 0)] ?_
 obtain ⟨x18, hx, h⟩ := bind_some h
 have hpk : MS w17 ([[b_p0]] ++ [[b15], [b5], M]) := hms.pick [some 2, some 0, some 1, some 3] _ rfl
 have hsb0 : ∀ x ∈ fl ([[b_p0]] ++ [[b15], [b5], M]), x ∈ fl [[b15], [b5], [b_p0], M] := pick_sub [some 2, some 0, some 1, some 3] _ rfl
 have hsb : ∀ x ∈ fl ([[b_p0]] ++ [(fl [[b15], [b5], M])]), x ∈ fl [[b15], [b5], [b_p0], M] := fun x hx => hsb0 x (fl_unfold x hx)
 have hcall := gen_Maker_Next_w b_p0 a_p0_0 c_p0_0 p0_0 x13.2 5 _ w17 (fl [[b15], [b5], M]) (hpk.fold (P := [[b_p0]])) (hs_p0_0.sub hsb) hb_p0 hx
 refine x_call 14 #[] #[] [Vp b_p0 0, Vi 5] _ rfl rfl rfl rfl hcall ?_
 rintro v w19 ⟨rfl, he19, hp19_0⟩
 clear hcall hx
 refine inl1 ?_
 have hpk2 : MS w17 ([[b_p0]] ++ [[b15], [b5], M]) := hms.pick [some 2, some 0, some 1, some 3] _ rfl
 have hsb2 : ∀ x ∈ fl ([[b_p0]] ++ [[b15], [b5], M]), x ∈ fl [[b15], [b5], [b_p0], M] := pick_sub [some 2, some 0, some 1, some 3] _ rfl
 have hst0 := Stp.call (LS := [[b15], [b5], [b_p0], M]) (res := []) (par := [[b_p0]]) (R := [[b15], [b5], M]) he19 (fun b hb => hsb2 b (fl_left' (P := [[b_p0]]) b hb)) (FR.nil _) (NP.init _ _) (fun x hx => hsb2 x (fl_right' (P := [[b_p0]]) x hx))
 have hsn : ∀ x ∈ fl [[b15], [b5], [b_p0], M], x ∈ fl ([] ++ ([[b_p0]] ++ [[b15], [b5], M])) := pick_sub [some 1, some 2, some 0, some 3] _ rfl
 have hst := hst0.res hsn
 replace hs_p0_0 := hs_p0_0.step hst
 replace hs_p2 := hs_p2.step hst
 replace hb5 := he19.box hb5 ((MS.outs (P := [[b_p0]]) hpk2 1 rfl) _ mem1)
 replace hb15 := he19.box hb15 ((MS.outs (P := [[b_p0]]) hpk2 0 rfl) _ mem1)
 replace hms := hms.ev he19
 replace hev := hev.then he19 (fun b hb => .inl (by simpa using hb))
 replace hb_p0 := hp19_0
 clear hpk hsb hsb0 hpk2 hsb2 hst0 hsn hst
 refine x_u 1 [(31, .bool (decide (x18.1 > 0)))] ?_
 refine x_ek ?_
 refine c_if (decide (x18.1 > 0)) rfl h (fun h => ?_) (fun h => ?_)
 · refine c_plain ?_
   refine x_u 1 [(33, Vl a_p2 p2 c_p2)] ?_
   refine x_fieldAddr (xv := Vp b15 0) (Vp b15 0) rfl rfl rfl (reads_field tfld30_0 _ _) ?_
   refine x_load (xv := Vp b15 0) (Vi x7.1) rfl rfl rfl (reads_box tcell3 hb15 nn 0 _ rfl) ?_
   obtain ⟨x20, hx, h⟩ := bind_some h
   have hpk : MS w19 ([] ++ [[b15], [b5], [b_p0], M]) := hms.pick [some 0, some 1, some 2, some 3] _ rfl
   have hsb0 : ∀ x ∈ fl ([] ++ [[b15], [b5], [b_p0], M]), x ∈ fl [[b15], [b5], [b_p0], M] := pick_sub [some 0, some 1, some 2, some 3] _ rfl
   have hsb : ∀ x ∈ fl ([] ++ [(fl [[b15], [b5], [b_p0], M])]), x ∈ fl [[b15], [b5], [b_p0], M] := fun x hx => hsb0 x (fl_unfold x hx)
   have hcall := r42_Where_w a_p2 c_p2 p2 x7.1 _ w19 (fl [[b15], [b5], [b_p0], M]) (MS.fold (P := []) hpk) (hs_p2.sub hsb) hx
   refine x_call 21 #[] #[] [Vl a_p2 p2 c_p2, Vi x7.1] _ rfl rfl rfl rfl hcall ?_
   rintro v w21 ⟨rfl, he21⟩
   clear hcall hx
   refine inl1 ?_
   have hst := Stp.ext (ls := [[b15], [b5], [b_p0], M]) he21
   replace hs_p0_0 := hs_p0_0.step hst
   replace hb_p0 := he21.box hb_p0 nn
   replace hs_p2 := hs_p2.step hst
   replace hb5 := he21.box hb5 nn
   replace hb15 := he21.box hb15 nn
   replace hms := hms.ev he21
   replace hev := hev.ext he21
   clear hpk hsb hsb0
   refine x_u 3 [(32, .tuple #[Vi x20.1, Vi x20.2]), (37, Vi x20.1), (38, Vi x20.2)] ?_
   refine x_fieldAddr (xv := Vp b15 0) (Vp b15 1) rfl rfl rfl (reads_field tfld30_1 _ _) ?_
   obtain ⟨w22, hr22, hb22, he22⟩ := store_box 1 (Vi x20.1) #[Vi x7.1, Vi x20.1, Vi (IntKind.i64.wrap (x11.1 - 1)), .bool (x13.1 == 0)] tcell3 hb15 rfl rfl rfl
   refine x_store w22 (xv := Vp b15 1) (yv := Vi x20.1) rfl rfl rfl rfl hr22 ?_
   refine inl1 ?_
   have hst := Stp.ev' (ls := [[b15], [b5], [b_p0], M]) he22 (mem_flat 0 rfl)
   replace hs_p0_0 := hs_p0_0.step hst
   replace hb_p0 := he22.box hb_p0 (hms.apart 2 0 rfl rfl rfl _ mem1)
   replace hs_p2 := hs_p2.step hst
   replace hb5 := he22.box hb5 (hms.apart 1 0 rfl rfl rfl _ mem1)
   replace hms := hms.ev he22
   replace hev := hev.then he22 (fun b hb => .inr (hfr.at 0 rfl b hb))
   replace hb15 := hb22
   refine x_ek ?_
   refine c_sp ?_
   refine x_load (xv := Vp b15 0) (.agg #[Vi x7.1, Vi x20.1, Vi (IntKind.i64.wrap (x11.1 - 1)), .bool (x13.1 == 0)]) rfl rfl rfl (reads_boxagg 0 [Vi x7.1, Vi x20.1, Vi (IntKind.i64.wrap (x11.1 - 1)), .bool (x13.1 == 0)] tagg30 hb15 nn rfl) ?_
   obtain ⟨w23, hr23, hb23, he23⟩ := store_boxagg 0 [Vi x7.1, Vi x20.1, Vi (IntKind.i64.wrap (x11.1 - 1)), .bool (x13.1 == 0)] #[Vi x7.1, Vi x20.1, Vi (IntKind.i64.wrap (x11.1 - 1)), .bool (x13.1 == 0)] tagg30 hb5 rfl rfl rfl
   refine x_store w23 (xv := Vp b5 0) (yv := .agg #[Vi x7.1, Vi x20.1, Vi (IntKind.i64.wrap (x11.1 - 1)), .bool (x13.1 == 0)]) rfl rfl rfl rfl hr23 ?_
   refine inl1 ?_
   have hst := Stp.ev' (ls := [[b15], [b5], [b_p0], M]) he23 (mem_flat 1 rfl)
   replace hs_p0_0 := hs_p0_0.step hst
   replace hb_p0 := he23.box hb_p0 (hms.apart 2 1 rfl rfl rfl _ mem1)
   replace hb15 := he23.box hb15 (hms.apart 0 1 rfl rfl rfl _ mem1)
   replace hms := hms.ev he23
   replace hev := hev.then he23 (fun b hb => .inr (hfr.at 1 rfl b hb))
   replace hb5 := hb23
   refine x_ek ?_
   refine c_ret ?_
   refine r_ret (r_vals [.agg #[Vi x7.1, Vi x20.1, Vi (IntKind.i64.wrap (x11.1 - 1)), .bool (x13.1 == 0)]] ⟨⟨_, rfl, loadVar_of_reads (reads_boxagg (Mo := []) 0 [Vi x7.1, Vi x20.1, Vi (IntKind.i64.wrap (x11.1 - 1)), .bool (x13.1 == 0)] tagg30 hb5 nn rfl)⟩, trivial⟩ ?_)
   have hx := some_inj h
   subst hx
   have hmr : MS w23 [[b_p0], M] := hms.pick [some 2, some 3] _ rfl
   have hsu : ∀ x ∈ fl [[b_p0], M], x ∈ fl [[b15], [b5], [b_p0], M] := pick_sub [some 2, some 3] _ rfl
   exact ⟨rfl, hev, hb_p0⟩
 refine c_skip ?_
 refine k_then ?_
 refine c_sp ?_
 refine x_load (xv := Vp b15 0) (.agg #[Vi x7.1, Vi (IntKind.i64.wrap (x9.1 - 1)), Vi (IntKind.i64.wrap (x11.1 - 1)), .bool (x13.1 == 0)]) rfl rfl rfl (reads_boxagg 0 [Vi x7.1, Vi (IntKind.i64.wrap (x9.1 - 1)), Vi (IntKind.i64.wrap (x11.1 - 1)), .bool (x13.1 == 0)] tagg30 hb15 nn rfl) ?_
 obtain ⟨w24, hr24, hb24, he24⟩ := store_boxagg 0 [Vi x7.1, Vi (IntKind.i64.wrap (x9.1 - 1)), Vi (IntKind.i64.wrap (x11.1 - 1)), .bool (x13.1 == 0)] #[Vi x7.1, Vi (IntKind.i64.wrap (x9.1 - 1)), Vi (IntKind.i64.wrap (x11.1 - 1)), .bool (x13.1 == 0)] tagg30 hb5 rfl rfl rfl
 refine x_store w24 (xv := Vp b5 0) (yv := .agg #[Vi x7.1, Vi (IntKind.i64.wrap (x9.1 - 1)), Vi (IntKind.i64.wrap (x11.1 - 1)), .bool (x13.1 == 0)]) rfl rfl rfl rfl hr24 ?_
 refine inl1 ?_
 have hst := Stp.ev' (ls := [[b15], [b5], [b_p0], M]) he24 (mem_flat 1 rfl)
 replace hs_p0_0 := hs_p0_0.step hst
 replace hb_p0 := he24.box hb_p0 (hms.apart 2 1 rfl rfl rfl _ mem1)
 replace hb15 := he24.box hb15 (hms.apart 0 1 rfl rfl rfl _ mem1)
 replace hms := hms.ev he24
 replace hev := hev.then he24 (fun b hb => .inr (hfr.at 1 rfl b hb))
 replace hb5 := hb24
 refine x_ek ?_
 refine c_ret ?_
 refine r_ret (r_vals [.agg #[Vi x7.1, Vi (IntKind.i64.wrap (x9.1 - 1)), Vi (IntKind.i64.wrap (x11.1 - 1)), .bool (x13.1 == 0)]] ⟨⟨_, rfl, loadVar_of_reads (reads_boxagg (Mo := []) 0 [Vi x7.1, Vi (IntKind.i64.wrap (x9.1 - 1)), Vi (IntKind.i64.wrap (x11.1 - 1)), .bool (x13.1 == 0)] tagg30 hb5 nn rfl)⟩, trivial⟩ ?_)
 have hx := some_inj h
 subst hx
 have hmr : MS w24 [[b_p0], M] := hms.pick [some 2, some 3] _ rfl
 have hsu : ∀ x ∈ fl [[b_p0], M], x ∈ fl [[b15], [b5], [b_p0], M] := pick_sub [some 2, some 3] _ rfl
 exact ⟨rfl, hev, hb_p0⟩
end Go.Proofs.Ytgeceohdppecgaa
