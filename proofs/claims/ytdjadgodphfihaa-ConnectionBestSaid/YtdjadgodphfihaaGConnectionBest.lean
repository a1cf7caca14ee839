/- Walks, printed by program: each function returns what the partial function of the same name returns. Conditions: those of each theorem. -/
import Derived.Test.YtdjadgodphfihaaGT
import Derived.Test.YtdjadgodphfihaaGconnection
import Derived.Test.YtdjadgodphfihaaGgen
import Derived.Test.YtdjadgodphfihaaGlaw41made
import Derived.Test.YtdjadgodphfihaaGlaw41sane
set_option linter.unusedVariables false
set_option linter.unusedSimpArgs false
set_option maxRecDepth 4000
namespace Go.Proofs.Ytdjadgodphfihaa
open Go Go.V Go.Proofs
def law41_ConnectionBest_L15 (x6 : (Int × Int × (List Int) × Int × Int) × Int) (x12 : Int × Int × Int) (s : Int) : Option (Step Int (Unit ⊕ Unit)) :=
match s with
| v_at_s8_l15 =>
(if (decide (v_at_s8_l15 ≤ x6.1.2.1)) = true then
((connection_Cost x6.1.1 x6.1.2.1 x6.1.2.2.1 x6.1.2.2.2.1 x6.1.2.2.2.2 v_at_s8_l15).bind fun x17 =>
(if (x17.2 != 0) = true then
some (.done (.inl ()))
else
(if (decide (x17.1 < x12.2.1)) = true then
some (.done (.inl ()))
else
(if (decide (v_at_s8_l15 < x12.1)) = true then
(if (x17.1 == x12.2.1) = true then
some (.done (.inl ()))
else
(if (v_at_s8_l15 == x12.1) = true then
(if (x17.1 != x12.2.1) = true then
some (.done (.inl ()))
else
some (.next (IntKind.i64.wrap (v_at_s8_l15 + 1))))
else
some (.next (IntKind.i64.wrap (v_at_s8_l15 + 1)))))
else
(if (v_at_s8_l15 == x12.1) = true then
(if (x17.1 != x12.2.1) = true then
some (.done (.inl ()))
else
some (.next (IntKind.i64.wrap (v_at_s8_l15 + 1))))
else
some (.next (IntKind.i64.wrap (v_at_s8_l15 + 1))))))))
else
some (.done (.inr ())))

def law41_ConnectionBest (p0 : List Int) : Option Bool :=
((gen_New p0).bind fun x2 =>
((law41_made x2.1 x2.2).bind fun x6 =>
((connection_Best x6.1.1 x6.1.2.1 x6.1.2.2.1 x6.1.2.2.2.1 x6.1.2.2.2.2).bind fun x12 =>
(if (x12.2.2 != 0) = true then
some false
else
(if (decide (x12.1 < x6.1.1)) = true then
some false
else
(if (decide (x12.1 > x6.1.2.1)) = true then
some false
else
((loop (law41_ConnectionBest_L15 x6 x12) x6.1.1).bind fun d => match d with
| (.inl _) => some false
| (.inr _) => ((law41_sane).bind fun x19 =>
some x19))))))))

theorem law41_ConnectionBest_w (a_p0 : Option Addr) (c_p0 : Nat) (p0 : List Int) (r : Bool) (w : World) (M : List Nat) (hms : MS w [M]) (hs_p0 : SlR (eInt .i64) w (fl [M]) a_p0 c_p0 p0) (h : law41_ConnectionBest p0 = some r) : CallVC Try.prog 4 [.slice a_p0 (p0).length c_p0] w fun v w' => v = .bool r ∧ Ev [] w w' := by
 refine calls_vc hmx Try.func4 (by kernel_rfl) rfl (rs := [.tmp 2]) rfl (by kernel_rfl) (args := [.slice a_p0 (p0).length c_p0]) rfl ?_
 have hev : Ev [] w w := Ev.refl _ _
 have hfr : FR w.heap.size [] := FR.nil _
 refine c_sp ?_
 refine x_pure 1 [(2, .bool false)] _ _ _ (by kernel_rfl) ?_
 refine x_ek ?_
 refine c_sp ?_
 refine x_pure 1 [(11, .slice a_p0 (p0).length c_p0)] _ _ _ (by kernel_rfl) ?_
 obtain ⟨x2, hx, h⟩ := bind_some h
 have hpk : MS w ([] ++ [M]) := hms.pick [some 0] _ rfl
 have hsb0 : ∀ x ∈ fl ([] ++ [M]), x ∈ fl [M] := pick_sub [some 0] _ rfl
 have hsb : ∀ x ∈ fl ([] ++ [(fl [M])]), x ∈ fl [M] := fun x hx => hsb0 x (fl_unfold x hx)
 have hcall := gen_New_w a_p0 c_p0 p0 _ w (fl [M]) (MS.fold (P := []) hpk) (hs_p0.sub hsb) hx
 refine x_call 7 #[] #[] [.slice a_p0 (p0).length c_p0] _ rfl rfl rfl rfl hcall ?_
 rintro v w3 ⟨b0_3, a1_3, c1_3, rfl, he3, hmn3, hfn3, hf3_1, hf3_2⟩
 clear hcall hx
 refine inl1 ?_
 have hpk2 : MS w ([] ++ [M]) := hms.pick [some 0] _ rfl
 have hsb2 : ∀ x ∈ fl ([] ++ [M]), x ∈ fl [M] := pick_sub [some 0] _ rfl
 have hst0 := Stp.call (LS := [M]) (res := [[b0_3]]) (par := []) (R := [M]) he3 (fun b hb => hsb2 b (fl_left' (P := []) b hb)) hfn3 (NP.init _ _) (fun x hx => hsb2 x (fl_right' (P := []) x hx))
 have hsn : ∀ x ∈ fl [[b0_3], M], x ∈ fl ([[b0_3]] ++ ([] ++ [M])) := pick_sub [some 0, some 1] _ rfl
 have hst := hst0.res hsn
 replace hs_p0 := hs_p0.step hst
 replace hms : MS w3 [[b0_3], M] := (MS.call (P := []) (R := [M]) (res := [[b0_3]]) (par := []) hpk2 he3 hmn3 hfn3 (NP.init _ _)).pick [some 0, some 1] _ rfl
 have hfr2 : FR w.heap.size [[b0_3]] := (FR.cons (fun b hb => Nat.le_trans hev.size (hfn3.at 0 rfl b hb)) (FR.nil _))
 replace hev := hev.ext he3
 replace hfr := hfr2
 clear hfr2
 have hsp : ∀ x ∈ fl [[b0_3], M], x ∈ fl ([[b0_3]] ++ ([] ++ [(fl [M])])) := fun x hx => fl_tot (res := [[b0_3]]) (par := []) (R := [M]) x (hsn x hx)
 replace hf3_2 := hf3_2.sub hsp
 clear hpk hsb hsb0 hpk2 hsb2 hst0 hsn hst
 refine x_pure 1 [(3, Vp b0_3 0)] _ _ _ (by kernel_rfl) ?_
 refine x_ek ?_
 refine c_sp ?_
 refine x_pure 1 [(13, Vp b0_3 0)] _ _ _ (by kernel_rfl) ?_
 obtain ⟨x6, hx, h⟩ := bind_some h
 have hpk : MS w3 ([[b0_3]] ++ [M]) := hms.pick [some 0, some 1] _ rfl
 have hsb0 : ∀ x ∈ fl ([[b0_3]] ++ [M]), x ∈ fl [[b0_3], M] := pick_sub [some 0, some 1] _ rfl
 have hsb : ∀ x ∈ fl ([[b0_3]] ++ [(fl [M])]), x ∈ fl [[b0_3], M] := fun x hx => hsb0 x (fl_unfold x hx)
 have hcall := law41_made_w b0_3 a1_3 c1_3 x2.1 x2.2 _ w3 (fl [M]) (hpk.fold (P := [[b0_3]])) (hf3_2.sub hsb) hf3_1 hx
 refine x_call 8 #[] #[] [Vp b0_3 0] _ rfl rfl rfl rfl hcall ?_
 rintro v w7 ⟨a0_7, c0_7, rfl, he7, hp7_0, hmn7, hfn7, hf7_1⟩
 clear hcall hx
 refine inl1 ?_
 have hpk2 : MS w3 ([[b0_3]] ++ [M]) := hms.pick [some 0, some 1] _ rfl
 have hsb2 : ∀ x ∈ fl ([[b0_3]] ++ [M]), x ∈ fl [[b0_3], M] := pick_sub [some 0, some 1] _ rfl
 have hst0 := Stp.call (LS := [[b0_3], M]) (res := [blk a0_7]) (par := [[b0_3]]) (R := [M]) he7 (fun b hb => hsb2 b (fl_left' (P := [[b0_3]]) b hb)) hfn7 (NP.init _ _) (fun x hx => hsb2 x (fl_right' (P := [[b0_3]]) x hx))
 have hsn : ∀ x ∈ fl [blk a0_7, [b0_3], M], x ∈ fl ([blk a0_7] ++ ([[b0_3]] ++ [M])) := pick_sub [some 0, some 1, some 2] _ rfl
 have hst := hst0.res hsn
 replace hf3_2 := hf3_2.step hst
 replace hms : MS w7 [blk a0_7, [b0_3], M] := (MS.call (P := [[b0_3]]) (R := [M]) (res := [blk a0_7]) (par := [[b0_3]]) hpk2 he7 hmn7 hfn7 (NP.init _ _)).pick [some 0, some 1, some 2] _ rfl
 have hPf : ∀ b ∈ fl [[b0_3]], w.heap.size ≤ b := FR.mem (ls := [[b0_3]]) (hfr.pick [some 0] _ rfl)
 have hfr2 : FR w.heap.size [blk a0_7, [b0_3]] := (FR.cons (fun b hb => Nat.le_trans hev.size (hfn7.at 0 rfl b hb)) (FR.cons (hfr.at 0 rfl) (FR.nil _)))
 replace hev := hev.then he7 (fun b hb => .inr (hPf b hb))
 replace hfr := hfr2
 clear hfr2
 replace hf3_1 := hp7_0
 replace hf7_1 := OwnS.plain (M' := fl [blk a0_7, [b0_3], M]) (plain_int _) hf7_1
 clear hpk hsb hsb0 hpk2 hsb2 hst0 hsn hst
 have hpk : MS w7 [[b0_3], M] := hms.pick [some 1, some 2] _ rfl
 have hsu : ∀ x ∈ fl [[b0_3], M], x ∈ fl [blk a0_7, [b0_3], M] := pick_sub [some 1, some 2] _ rfl
 replace hf3_2 := hf3_2.sub hsu
 replace hf7_1 := hf7_1.ro hsu (pick_out hms 0 rfl [some 1, some 2] [[b0_3], M] rfl rfl)
 replace hms := hpk
 replace hfr : FR w.heap.size [[b0_3]] := hfr.pick [some 1] _ rfl
 clear hpk hsu
 refine x_alloc (z := .agg #[Vi 0, Vi 0, .slice none 0 0, Vi 0, Vi 0]) rfl rfl (by kernel_rfl) (fun b9 w9 hq9 hb9 he9 hz9 => ?_)
 replace hb9 : w9.heap[b9]? = some (.cells #[Vi 0, Vi 0, .slice none 0 0, Vi 0, Vi 0] 24 (0, 0)) := hb9
 refine inl1 ?_
 have hst := Stp.box (ls := [[b0_3], M]) he9 hq9
 replace hf3_1 := he9.box hf3_1 nn
 replace hf3_2 := hf3_2.step hst
 replace hf7_1 := hf7_1.step hst
 replace hms := hms.box he9 hq9 hb9
 replace hfr := hfr.box hev.size hq9
 replace hev := hev.ext he9
 obtain ⟨w11, hr11, hb11, he11⟩ := store_boxagg 0 [Vi x6.1.1, Vi x6.1.2.1, .slice a0_7 (x6.1.2.2.1).length c0_7, Vi x6.1.2.2.2.1, Vi x6.1.2.2.2.2] #[Vi x6.1.1, Vi x6.1.2.1, .slice a0_7 (x6.1.2.2.1).length c0_7, Vi x6.1.2.2.2.1, Vi x6.1.2.2.2.2] tagg24 hb9 rfl rfl rfl
 refine x_store w11 (xv := Vp b9 0) (yv := .agg #[Vi x6.1.1, Vi x6.1.2.1, .slice a0_7 (x6.1.2.2.1).length c0_7, Vi x6.1.2.2.2.1, Vi x6.1.2.2.2.2]) rfl rfl rfl rfl hr11 ?_
 refine inl1 ?_
 have hst := Stp.ev' (ls := [[b9], [b0_3], M]) he11 (mem_flat 0 rfl)
 replace hf3_1 := he11.box hf3_1 (hms.apart 1 0 rfl rfl rfl _ mem1)
 replace hf3_2 := hf3_2.step hst
 replace hf7_1 := hf7_1.step hst
 replace hms := hms.ev he11
 replace hev := hev.then he11 (fun b hb => .inr (hfr.at 0 rfl b hb))
 replace hb9 := hb11
 refine x_ek ?_
 refine c_sp ?_
 refine x_load (xv := Vp b9 0) (.agg #[Vi x6.1.1, Vi x6.1.2.1, .slice a0_7 (x6.1.2.2.1).length c0_7, Vi x6.1.2.2.2.1, Vi x6.1.2.2.2.2]) rfl rfl rfl (reads_boxagg 0 [Vi x6.1.1, Vi x6.1.2.1, .slice a0_7 (x6.1.2.2.1).length c0_7, Vi x6.1.2.2.2.1, Vi x6.1.2.2.2.2] tagg24 hb9 nn rfl) ?_
 obtain ⟨x12, hx, h⟩ := bind_some h
 have hpk : MS w11 ([] ++ [[b9], [b0_3], M]) := hms.pick [some 0, some 1, some 2] _ rfl
 have hsb0 : ∀ x ∈ fl ([] ++ [[b9], [b0_3], M]), x ∈ fl [[b9], [b0_3], M] := pick_sub [some 0, some 1, some 2] _ rfl
 have hsb : ∀ x ∈ fl ([] ++ [(fl [[b9], [b0_3], M])]), x ∈ fl [[b9], [b0_3], M] := fun x hx => hsb0 x (fl_unfold x hx)
 have hcall := connection_Best_w x6.1.1 x6.1.2.1 a0_7 c0_7 x6.1.2.2.1 x6.1.2.2.2.1 x6.1.2.2.2.2 _ w11 (fl [[b9], [b0_3], M]) (MS.fold (P := []) hpk) (hf7_1.sub hsb) hx
 refine x_call 13 #[] #[] [.agg #[Vi x6.1.1, Vi x6.1.2.1, .slice a0_7 (x6.1.2.2.1).length c0_7, Vi x6.1.2.2.2.1, Vi x6.1.2.2.2.2]] _ rfl rfl rfl rfl hcall ?_
 rintro v w13 ⟨rfl, he13⟩
 clear hcall hx
 refine inl1 ?_
 have hst := Stp.ext (ls := [[b9], [b0_3], M]) he13
 replace hf3_1 := he13.box hf3_1 nn
 replace hf3_2 := hf3_2.step hst
 replace hf7_1 := hf7_1.step hst
 replace hb9 := he13.box hb9 nn
 replace hms := hms.ev he13
 replace hev := hev.ext he13
 clear hpk hsb hsb0
 refine x_pure 7 [(15, .tuple #[Vi x12.1, Vi x12.2.1, Vi x12.2.2]), (18, Vi x12.1), (19, Vi x12.2.1), (20, Vi x12.2.2), (5, Vi x12.1), (6, Vi x12.2.1), (7, Vi x12.2.2)] _ _ _ (by kernel_rfl) ?_
 refine x_ek ?_
 refine c_norm [(4, Vp b9 0), (5, Vi x12.1), (6, Vi x12.2.1), (7, Vi x12.2.2)] ⟨rfl, rfl, rfl, rfl, trivial⟩ (fun J => ?_)
 refine c_seq ?_
 refine c_sp ?_
 refine x_pure 3 [(21, Vi x12.2.2), (22, .bool (x12.2.2 != 0)), (23, .bool (x12.2.2 != 0))] _ _ _ (by kernel_rfl) ?_
 refine x_split 23 (x12.2.2 != 0) rfl (fun hb => ?_) (fun hb => ?_)
 · replace h := ite_t hb h
   refine x_pure 11 [(24, undef), (25, undef), (26, undef), (27, undef), (28, .bool true), (29, .bool true), (30, undef), (31, undef), (32, undef), (33, undef), (34, .bool true)] _ _ _ (by kernel_rfl) ?_
   refine x_ek ?_
   refine c_norm [(4, Vp b9 0), (5, Vi x12.1), (6, Vi x12.2.1), (34, .bool true)] ⟨rfl, rfl, rfl, rfl, trivial⟩ (fun J => ?_)
   refine c_true rfl ?_
   refine c_sp ?_
   refine x_pure 1 [(2, .bool false)] _ _ _ (by kernel_rfl) ?_
   refine x_ek ?_
   refine c_ret ?_
   refine k_then_ret ?_
   refine r_ret (r_vals [.bool false] ⟨rfl, trivial⟩ ?_)
   have hx := some_inj h
   subst hx
   have hmr : MS w13 [M] := hms.pick [some 2] _ rfl
   have hsu : ∀ x ∈ fl [M], x ∈ fl [[b9], [b0_3], M] := pick_sub [some 2] _ rfl
   exact ⟨rfl, hev⟩
 replace h := ite_f hb h
 refine x_pure 1 [(24, Vi x12.1)] _ _ _ (by kernel_rfl) ?_
 refine x_fieldAddr (xv := Vp b9 0) (Vp b9 0) rfl rfl rfl (reads_field tfld24_0 _ _) ?_
 refine x_load (xv := Vp b9 0) (Vi x6.1.1) rfl rfl rfl (reads_box tcell3 hb9 nn 0 _ rfl) ?_
 refine x_pure 3 [(27, .bool (decide (x12.1 < x6.1.1))), (28, .bool (decide (x12.1 < x6.1.1))), (29, .bool (decide (x12.1 < x6.1.1)))] _ _ _ (by kernel_rfl) ?_
 refine x_split 29 (decide (x12.1 < x6.1.1)) rfl (fun hb => ?_) (fun hb => ?_)
 · replace h := ite_t hb h
   refine x_pure 5 [(30, undef), (31, undef), (32, undef), (33, undef), (34, .bool true)] _ _ _ (by kernel_rfl) ?_
   refine x_ek ?_
   refine c_norm [(4, Vp b9 0), (5, Vi x12.1), (6, Vi x12.2.1), (34, .bool true)] ⟨rfl, rfl, rfl, rfl, trivial⟩ (fun J => ?_)
   refine c_true rfl ?_
   refine c_sp ?_
   refine x_pure 1 [(2, .bool false)] _ _ _ (by kernel_rfl) ?_
   refine x_ek ?_
   refine c_ret ?_
   refine k_then_ret ?_
   refine r_ret (r_vals [.bool false] ⟨rfl, trivial⟩ ?_)
   have hx := some_inj h
   subst hx
   have hmr : MS w13 [M] := hms.pick [some 2] _ rfl
   have hsu : ∀ x ∈ fl [M], x ∈ fl [[b9], [b0_3], M] := pick_sub [some 2] _ rfl
   exact ⟨rfl, hev⟩
 replace h := ite_f hb h
 refine x_pure 1 [(30, Vi x12.1)] _ _ _ (by kernel_rfl) ?_
 refine x_fieldAddr (xv := Vp b9 0) (Vp b9 1) rfl rfl rfl (reads_field tfld24_1 _ _) ?_
 refine x_load (xv := Vp b9 1) (Vi x6.1.2.1) rfl rfl rfl (reads_box tcell3 hb9 nn 1 _ rfl) ?_
 refine x_pure 2 [(33, .bool (decide (x12.1 > x6.1.2.1))), (34, .bool (decide (x12.1 > x6.1.2.1)))] _ _ _ (by kernel_rfl) ?_
 refine x_ek ?_
 refine c_norm [(4, Vp b9 0), (5, Vi x12.1), (6, Vi x12.2.1), (34, .bool (decide (x12.1 > x6.1.2.1)))] ⟨rfl, rfl, rfl, rfl, trivial⟩ (fun J => ?_)
 refine c_cond (decide (x12.1 > x6.1.2.1)) rfl (fun hb => ?_) (fun hb => ?_)
 · replace h := ite_t hb h
   refine c_sp ?_
   refine x_pure 1 [(2, .bool false)] _ _ _ (by kernel_rfl) ?_
   refine x_ek ?_
   refine c_ret ?_
   refine k_then_ret ?_
   refine r_ret (r_vals [.bool false] ⟨rfl, trivial⟩ ?_)
   have hx := some_inj h
   subst hx
   have hmr : MS w13 [M] := hms.pick [some 2] _ rfl
   have hsu : ∀ x ∈ fl [M], x ∈ fl [[b9], [b0_3], M] := pick_sub [some 2] _ rfl
   exact ⟨rfl, hev⟩
 replace h := ite_f hb h
 refine c_skip ?_
 refine k_then ?_
 refine c_seq ?_
 refine c_sp ?_
 refine x_fieldAddr (xv := Vp b9 0) (Vp b9 0) rfl rfl rfl (reads_field tfld24_0 _ _) ?_
 refine x_load (xv := Vp b9 0) (Vi x6.1.1) rfl rfl rfl (reads_box tcell3 hb9 nn 0 _ rfl) ?_
 refine x_pure 1 [(8, Vi x6.1.1)] _ _ _ (by kernel_rfl) ?_
 refine x_ek ?_
 refine c_block ?_
 have hpk : MS w13 [[b9], M] := hms.pick [some 0, some 2] _ rfl
 have hsu : ∀ x ∈ fl [[b9], M], x ∈ fl [[b9], [b0_3], M] := pick_sub [some 0, some 2] _ rfl
 replace hf7_1 := hf7_1.sub hsu
 replace hms := hpk
 replace hfr : FR w.heap.size [[b9]] := hfr.pick [some 0] _ rfl
 clear hpk hsu
 obtain ⟨d15, hd15, h15⟩ := bind_some h
 obtain ⟨m15, hd15⟩ := loop_some hd15
 refine c_loop (loop_rule hmx (σ := Nat × Int) (fun s => match s with | (_, v_at_s8_l15) => [(4, Vp b9 0), (5, Vi x12.1), (6, Vi x12.2.1), (8, Vi v_at_s8_l15)]) (fun s w' => match s with | (m, v_at_s8_l15) => loopN (law41_ConnectionBest_L15 x6 x12) m v_at_s8_l15 = some d15 ∧ Ev [] w w' ∧ MS w' [[b9], M] ∧ FR w.heap.size [[b9]] ∧ SlR (eInt .i64) w' (fl [[b9], M]) a0_7 c0_7 x6.1.2.2.1 ∧ w'.heap[b9]? = some (.cells #[Vi x6.1.1, Vi x6.1.2.1, .slice a0_7 (x6.1.2.2.1).length c0_7, Vi x6.1.2.2.2.1, Vi x6.1.2.2.2.2] 24 (0, 0))) (fun s => s.1) (m15, x6.1.1) ⟨rfl, rfl, rfl, rfl, trivial⟩ ⟨hd15, hev, hms, hfr, hf7_1, hb9⟩ ?_)
 rintro ⟨m15, v_at_s8_l15⟩ J wl15 ⟨hn15, hev, hms, hfr, hf7_1, hb9⟩
 rcases m15 with _ | m15
 · exact (loopN_zero hn15).elim
 obtain ⟨t15, h, hn15⟩ := bind_some hn15
 refine c_seq ?_
 refine c_sp ?_
 refine x_pure 1 [(37, Vi v_at_s8_l15)] _ _ _ (by kernel_rfl) ?_
 refine x_fieldAddr (xv := Vp b9 0) (Vp b9 1) rfl rfl rfl (reads_field tfld24_1 _ _) ?_
 refine x_load (xv := Vp b9 1) (Vi x6.1.2.1) rfl rfl rfl (reads_box tcell3 hb9 nn 1 _ rfl) ?_
 refine x_pure 1 [(40, .bool (decide (v_at_s8_l15 ≤ x6.1.2.1)))] _ _ _ (by kernel_rfl) ?_
 refine x_ek ?_
 refine c_norm [(4, Vp b9 0), (5, Vi x12.1), (6, Vi x12.2.1), (8, Vi v_at_s8_l15), (40, .bool (decide (v_at_s8_l15 ≤ x6.1.2.1)))] ⟨rfl, rfl, rfl, rfl, rfl, trivial⟩ (fun J => ?_)
 refine c_cond (decide (v_at_s8_l15 ≤ x6.1.2.1)) rfl (fun hb => ?_) (fun hb => ?_)
 · replace h := ite_t hb h
   refine c_skip ?_
   refine k_then ?_
   refine c_seq ?_
   refine c_block ?_
   refine c_sp ?_
   refine x_load (xv := Vp b9 0) (.agg #[Vi x6.1.1, Vi x6.1.2.1, .slice a0_7 (x6.1.2.2.1).length c0_7, Vi x6.1.2.2.2.1, Vi x6.1.2.2.2.2]) rfl rfl rfl (reads_boxagg 0 [Vi x6.1.1, Vi x6.1.2.1, .slice a0_7 (x6.1.2.2.1).length c0_7, Vi x6.1.2.2.2.1, Vi x6.1.2.2.2.2] tagg24 hb9 nn rfl) ?_
   refine x_pure 1 [(45, Vi v_at_s8_l15)] _ _ _ (by kernel_rfl) ?_
   obtain ⟨x17, hx, h⟩ := bind_some h
   have hpk : MS wl15 ([] ++ [[b9], M]) := hms.pick [some 0, some 1] _ rfl
   have hsb0 : ∀ x ∈ fl ([] ++ [[b9], M]), x ∈ fl [[b9], M] := pick_sub [some 0, some 1] _ rfl
   have hsb : ∀ x ∈ fl ([] ++ [(fl [[b9], M])]), x ∈ fl [[b9], M] := fun x hx => hsb0 x (fl_unfold x hx)
   have hcall := connection_Cost_w x6.1.1 x6.1.2.1 a0_7 c0_7 x6.1.2.2.1 x6.1.2.2.2.1 x6.1.2.2.2.2 v_at_s8_l15 _ wl15 (fl [[b9], M]) (MS.fold (P := []) hpk) (hf7_1.sub hsb) hx
   refine x_call 14 #[] #[] [.agg #[Vi x6.1.1, Vi x6.1.2.1, .slice a0_7 (x6.1.2.2.1).length c0_7, Vi x6.1.2.2.2.1, Vi x6.1.2.2.2.2], Vi v_at_s8_l15] _ rfl rfl rfl rfl hcall ?_
   rintro v w18 ⟨rfl, he18⟩
   clear hcall hx
   refine inl1 ?_
   have hst := Stp.ext (ls := [[b9], M]) he18
   replace hb9 := he18.box hb9 nn
   replace hf7_1 := hf7_1.step hst
   replace hms := hms.ev he18
   replace hev := hev.ext he18
   clear hpk hsb hsb0
   refine x_pure 5 [(43, .tuple #[Vi x17.1, Vi x17.2]), (47, Vi x17.1), (48, Vi x17.2), (9, Vi x17.1), (10, Vi x17.2)] _ _ _ (by kernel_rfl) ?_
   refine x_ek ?_
   refine c_sp ?_
   refine x_pure 3 [(49, Vi x17.2), (50, .bool (x17.2 != 0)), (51, .bool (x17.2 != 0))] _ _ _ (by kernel_rfl) ?_
   refine x_split 51 (x17.2 != 0) rfl (fun hb => ?_) (fun hb => ?_)
   · replace h := ite_t hb h
     refine x_pure 24 [(52, undef), (53, undef), (54, undef), (55, .bool true), (56, .bool true), (57, undef), (58, undef), (59, undef), (60, undef), (61, undef), (62, undef), (63, undef), (64, undef), (65, .bool true), (66, .bool true), (67, undef), (68, undef), (69, undef), (70, undef), (71, undef), (72, undef), (73, undef), (74, undef), (75, .bool true)] _ _ _ (by kernel_rfl) ?_
     refine x_ek ?_
     refine c_norm [(4, Vp b9 0), (5, Vi x12.1), (6, Vi x12.2.1), (8, Vi v_at_s8_l15), (75, .bool true)] ⟨rfl, rfl, rfl, rfl, rfl, trivial⟩ (fun J => ?_)
     refine c_true rfl ?_
     refine c_sp ?_
     refine x_pure 1 [(2, .bool false)] _ _ _ (by kernel_rfl) ?_
     refine x_ek ?_
     refine c_ret ?_
     refine k_block_ret ?_
     refine k_then_ret ?_
     have hx := some_inj h
     subst hx
     have hy := some_inj hn15
     subst hy
     replace h := h15
     refine k_then_ret ?_
     refine k_block_ret ?_
     refine k_then_ret ?_
     refine r_ret (r_vals [.bool false] ⟨rfl, trivial⟩ ?_)
     have hx := some_inj h
     subst hx
     have hmr : MS w18 [M] := hms.pick [some 1] _ rfl
     have hsu : ∀ x ∈ fl [M], x ∈ fl [[b9], M] := pick_sub [some 1] _ rfl
     exact ⟨rfl, hev⟩
   replace h := ite_f hb h
   refine x_pure 5 [(52, Vi x17.1), (53, Vi x12.2.1), (54, .bool (decide (x17.1 < x12.2.1))), (55, .bool (decide (x17.1 < x12.2.1))), (56, .bool (decide (x17.1 < x12.2.1)))] _ _ _ (by kernel_rfl) ?_
   refine x_split 56 (decide (x17.1 < x12.2.1)) rfl (fun hb => ?_) (fun hb => ?_)
   · replace h := ite_t hb h
     refine x_pure 19 [(57, undef), (58, undef), (59, undef), (60, undef), (61, undef), (62, undef), (63, undef), (64, undef), (65, .bool true), (66, .bool true), (67, undef), (68, undef), (69, undef), (70, undef), (71, undef), (72, undef), (73, undef), (74, undef), (75, .bool true)] _ _ _ (by kernel_rfl) ?_
     refine x_ek ?_
     refine c_norm [(4, Vp b9 0), (5, Vi x12.1), (6, Vi x12.2.1), (8, Vi v_at_s8_l15), (75, .bool true)] ⟨rfl, rfl, rfl, rfl, rfl, trivial⟩ (fun J => ?_)
     refine c_true rfl ?_
     refine c_sp ?_
     refine x_pure 1 [(2, .bool false)] _ _ _ (by kernel_rfl) ?_
     refine x_ek ?_
     refine c_ret ?_
     refine k_block_ret ?_
     refine k_then_ret ?_
     have hx := some_inj h
     subst hx
     have hy := some_inj hn15
     subst hy
     replace h := h15
     refine k_then_ret ?_
     refine k_block_ret ?_
     refine k_then_ret ?_
     refine r_ret (r_vals [.bool false] ⟨rfl, trivial⟩ ?_)
     have hx := some_inj h
     subst hx
     have hmr : MS w18 [M] := hms.pick [some 1] _ rfl
     have hsu : ∀ x ∈ fl [M], x ∈ fl [[b9], M] := pick_sub [some 1] _ rfl
     exact ⟨rfl, hev⟩
   replace h := ite_f hb h
   refine x_pure 4 [(57, Vi v_at_s8_l15), (58, Vi x12.1), (59, .bool (decide (v_at_s8_l15 < x12.1))), (60, .bool (decide (v_at_s8_l15 < x12.1)))] _ _ _ (by kernel_rfl) ?_
   refine x_split 60 (decide (v_at_s8_l15 < x12.1)) rfl (fun hb => ?_) (fun hb => ?_)
   · replace h := ite_t hb h
     refine x_pure 6 [(61, Vi x17.1), (62, Vi x12.2.1), (63, .bool (x17.1 == x12.2.1)), (64, .bool (x17.1 == x12.2.1)), (65, .bool (x17.1 == x12.2.1)), (66, .bool (x17.1 == x12.2.1))] _ _ _ (by kernel_rfl) ?_
     refine x_split 66 (x17.1 == x12.2.1) rfl (fun hb => ?_) (fun hb => ?_)
     · replace h := ite_t hb h
       refine x_pure 9 [(67, undef), (68, undef), (69, undef), (70, undef), (71, undef), (72, undef), (73, undef), (74, undef), (75, .bool true)] _ _ _ (by kernel_rfl) ?_
       refine x_ek ?_
       refine c_norm [(4, Vp b9 0), (5, Vi x12.1), (6, Vi x12.2.1), (8, Vi v_at_s8_l15), (75, .bool true)] ⟨rfl, rfl, rfl, rfl, rfl, trivial⟩ (fun J => ?_)
       refine c_true rfl ?_
       refine c_sp ?_
       refine x_pure 1 [(2, .bool false)] _ _ _ (by kernel_rfl) ?_
       refine x_ek ?_
       refine c_ret ?_
       refine k_block_ret ?_
       refine k_then_ret ?_
       have hx := some_inj h
       subst hx
       have hy := some_inj hn15
       subst hy
       replace h := h15
       refine k_then_ret ?_
       refine k_block_ret ?_
       refine k_then_ret ?_
       refine r_ret (r_vals [.bool false] ⟨rfl, trivial⟩ ?_)
       have hx := some_inj h
       subst hx
       have hmr : MS w18 [M] := hms.pick [some 1] _ rfl
       have hsu : ∀ x ∈ fl [M], x ∈ fl [[b9], M] := pick_sub [some 1] _ rfl
       exact ⟨rfl, hev⟩
     replace h := ite_f hb h
     refine x_pure 4 [(67, Vi v_at_s8_l15), (68, Vi x12.1), (69, .bool (v_at_s8_l15 == x12.1)), (70, .bool (v_at_s8_l15 == x12.1))] _ _ _ (by kernel_rfl) ?_
     refine x_split 70 (v_at_s8_l15 == x12.1) rfl (fun hb => ?_) (fun hb => ?_)
     · replace h := ite_t hb h
       refine x_pure 5 [(71, Vi x17.1), (72, Vi x12.2.1), (73, .bool (x17.1 != x12.2.1)), (74, .bool (x17.1 != x12.2.1)), (75, .bool (x17.1 != x12.2.1))] _ _ _ (by kernel_rfl) ?_
       refine x_ek ?_
       refine c_norm [(4, Vp b9 0), (5, Vi x12.1), (6, Vi x12.2.1), (8, Vi v_at_s8_l15), (75, .bool (x17.1 != x12.2.1))] ⟨rfl, rfl, rfl, rfl, rfl, trivial⟩ (fun J => ?_)
       refine c_cond (x17.1 != x12.2.1) rfl (fun hb => ?_) (fun hb => ?_)
       · replace h := ite_t hb h
         refine c_sp ?_
         refine x_pure 1 [(2, .bool false)] _ _ _ (by kernel_rfl) ?_
         refine x_ek ?_
         refine c_ret ?_
         refine k_block_ret ?_
         refine k_then_ret ?_
         have hx := some_inj h
         subst hx
         have hy := some_inj hn15
         subst hy
         replace h := h15
         refine k_then_ret ?_
         refine k_block_ret ?_
         refine k_then_ret ?_
         refine r_ret (r_vals [.bool false] ⟨rfl, trivial⟩ ?_)
         have hx := some_inj h
         subst hx
         have hmr : MS w18 [M] := hms.pick [some 1] _ rfl
         have hsu : ∀ x ∈ fl [M], x ∈ fl [[b9], M] := pick_sub [some 1] _ rfl
         exact ⟨rfl, hev⟩
       replace h := ite_f hb h
       refine c_skip ?_
       refine k_block ?_
       refine k_then ?_
       refine c_plain ?_
       refine x_pure 3 [(41, Vi v_at_s8_l15), (42, Vi (IntKind.i64.wrap (v_at_s8_l15 + 1))), (8, Vi (IntKind.i64.wrap (v_at_s8_l15 + 1)))] _ _ _ (by kernel_rfl) ?_
       refine x_end rfl ?_
       have hx := some_inj h
       subst hx
       exact k_then ⟨(m15, IntKind.i64.wrap (v_at_s8_l15 + 1)), ⟨rfl, rfl, rfl, rfl, trivial⟩, ⟨hn15, hev, hms, hfr, hf7_1, hb9⟩, Nat.lt_succ_self _⟩
     replace h := ite_f hb h
     refine x_pure 5 [(71, undef), (72, undef), (73, undef), (74, .bool false), (75, .bool false)] _ _ _ (by kernel_rfl) ?_
     refine x_ek ?_
     refine c_norm [(4, Vp b9 0), (5, Vi x12.1), (6, Vi x12.2.1), (8, Vi v_at_s8_l15), (75, .bool false)] ⟨rfl, rfl, rfl, rfl, rfl, trivial⟩ (fun J => ?_)
     refine c_false rfl ?_
     refine c_skip ?_
     refine k_block ?_
     refine k_then ?_
     refine c_plain ?_
     refine x_pure 3 [(41, Vi v_at_s8_l15), (42, Vi (IntKind.i64.wrap (v_at_s8_l15 + 1))), (8, Vi (IntKind.i64.wrap (v_at_s8_l15 + 1)))] _ _ _ (by kernel_rfl) ?_
     refine x_end rfl ?_
     have hx := some_inj h
     subst hx
     exact k_then ⟨(m15, IntKind.i64.wrap (v_at_s8_l15 + 1)), ⟨rfl, rfl, rfl, rfl, trivial⟩, ⟨hn15, hev, hms, hfr, hf7_1, hb9⟩, Nat.lt_succ_self _⟩
   replace h := ite_f hb h
   refine x_pure 10 [(61, undef), (62, undef), (63, undef), (64, .bool false), (65, .bool false), (66, .bool false), (67, Vi v_at_s8_l15), (68, Vi x12.1), (69, .bool (v_at_s8_l15 == x12.1)), (70, .bool (v_at_s8_l15 == x12.1))] _ _ _ (by kernel_rfl) ?_
   refine x_split 70 (v_at_s8_l15 == x12.1) rfl (fun hb => ?_) (fun hb => ?_)
   · replace h := ite_t hb h
     refine x_pure 5 [(71, Vi x17.1), (72, Vi x12.2.1), (73, .bool (x17.1 != x12.2.1)), (74, .bool (x17.1 != x12.2.1)), (75, .bool (x17.1 != x12.2.1))] _ _ _ (by kernel_rfl) ?_
     refine x_ek ?_
     refine c_norm [(4, Vp b9 0), (5, Vi x12.1), (6, Vi x12.2.1), (8, Vi v_at_s8_l15), (75, .bool (x17.1 != x12.2.1))] ⟨rfl, rfl, rfl, rfl, rfl, trivial⟩ (fun J => ?_)
     refine c_cond (x17.1 != x12.2.1) rfl (fun hb => ?_) (fun hb => ?_)
     · replace h := ite_t hb h
       refine c_sp ?_
       refine x_pure 1 [(2, .bool false)] _ _ _ (by kernel_rfl) ?_
       refine x_ek ?_
       refine c_ret ?_
       refine k_block_ret ?_
       refine k_then_ret ?_
       have hx := some_inj h
       subst hx
       have hy := some_inj hn15
       subst hy
       replace h := h15
       refine k_then_ret ?_
       refine k_block_ret ?_
       refine k_then_ret ?_
       refine r_ret (r_vals [.bool false] ⟨rfl, trivial⟩ ?_)
       have hx := some_inj h
       subst hx
       have hmr : MS w18 [M] := hms.pick [some 1] _ rfl
       have hsu : ∀ x ∈ fl [M], x ∈ fl [[b9], M] := pick_sub [some 1] _ rfl
       exact ⟨rfl, hev⟩
     replace h := ite_f hb h
     refine c_skip ?_
     refine k_block ?_
     refine k_then ?_
     refine c_plain ?_
     refine x_pure 3 [(41, Vi v_at_s8_l15), (42, Vi (IntKind.i64.wrap (v_at_s8_l15 + 1))), (8, Vi (IntKind.i64.wrap (v_at_s8_l15 + 1)))] _ _ _ (by kernel_rfl) ?_
     refine x_end rfl ?_
     have hx := some_inj h
     subst hx
     exact k_then ⟨(m15, IntKind.i64.wrap (v_at_s8_l15 + 1)), ⟨rfl, rfl, rfl, rfl, trivial⟩, ⟨hn15, hev, hms, hfr, hf7_1, hb9⟩, Nat.lt_succ_self _⟩
   replace h := ite_f hb h
   refine x_pure 5 [(71, undef), (72, undef), (73, undef), (74, .bool false), (75, .bool false)] _ _ _ (by kernel_rfl) ?_
   refine x_ek ?_
   refine c_norm [(4, Vp b9 0), (5, Vi x12.1), (6, Vi x12.2.1), (8, Vi v_at_s8_l15), (75, .bool false)] ⟨rfl, rfl, rfl, rfl, rfl, trivial⟩ (fun J => ?_)
   refine c_false rfl ?_
   refine c_skip ?_
   refine k_block ?_
   refine k_then ?_
   refine c_plain ?_
   refine x_pure 3 [(41, Vi v_at_s8_l15), (42, Vi (IntKind.i64.wrap (v_at_s8_l15 + 1))), (8, Vi (IntKind.i64.wrap (v_at_s8_l15 + 1)))] _ _ _ (by kernel_rfl) ?_
   refine x_end rfl ?_
   have hx := some_inj h
   subst hx
   exact k_then ⟨(m15, IntKind.i64.wrap (v_at_s8_l15 + 1)), ⟨rfl, rfl, rfl, rfl, trivial⟩, ⟨hn15, hev, hms, hfr, hf7_1, hb9⟩, Nat.lt_succ_self _⟩
 replace h := ite_f hb h
 refine c_exit ?_
 refine k_then_exit ?_
 have hx := some_inj h
 subst hx
 have hy := some_inj hn15
 subst hy
 replace h := h15
 refine k_then_exit ?_
 refine k_block_in ?_
 refine k_then ?_
 refine c_norm [] trivial (fun J => ?_)
 refine c_sp ?_
 obtain ⟨x19, hx, h⟩ := bind_some h
 have hcall := law41_sane_w _ wl15 hx
 refine x_call 12 #[] #[] [] _ rfl rfl rfl rfl hcall ?_
 rintro v w20 ⟨rfl, he20⟩
 clear hcall hx
 refine inl1 ?_
 have hst := Stp.ext (ls := [[b9], M]) he20
 replace hb9 := he20.box hb9 nn
 replace hf7_1 := hf7_1.step hst
 replace hms := hms.ev he20
 replace hev := hev.ext he20
 refine x_pure 1 [(2, .bool x19)] _ _ _ (by kernel_rfl) ?_
 refine x_ek ?_
 refine c_ret ?_
 refine r_ret (r_vals [.bool x19] ⟨rfl, trivial⟩ ?_)
 have hx := some_inj h
 subst hx
 have hmr : MS w20 [M] := hms.pick [some 1] _ rfl
 have hsu : ∀ x ∈ fl [M], x ∈ fl [[b9], M] := pick_sub [some 1] _ rfl
 exact ⟨rfl, hev⟩
end Go.Proofs.Ytdjadgodphfihaa
