
/- Walks, printed by program: each function returns what the partial function of the same name returns. Conditions: those of each theorem. -/
import Derived.Test.YtcignnfdpgeogaaGT
set_option linter.unusedVariables false
set_option linter.unusedSimpArgs false
set_option maxRecDepth 4000
namespace Go.Proofs.Ytcignnfdpgeogaa
open Go Go.V Go.Proofs
def r11_Valid_L6 (p0_0 : List (Int × Int × Int × Int)) (s : Int) : Option (Step Int (Int ⊕ Unit)) :=
match s with
| i_s3_l6 =>
(if (decide (i_s3_l6 < ((p0_0).length : Int))) = true then
((idx p0_0 i_s3_l6).bind fun x8 =>
(if (decide (x8.1 < 0)) = true then
some (.done (.inl 2))
else
(if (decide (x8.1 ≥ 16)) = true then
some (.done (.inl 2))
else
(if (decide (x8.2.1 < 0)) = true then
some (.done (.inl 2))
else
(if (decide (x8.2.1 ≥ 32)) = true then
some (.done (.inl 2))
else
(if (decide (x8.2.2.1 < 0)) = true then
some (.done (.inl 2))
else
(if (decide (x8.2.2.1 ≥ 13)) = true then
some (.done (.inl 2))
else
(if (decide (x8.2.2.2 < 1)) = true then
some (.done (.inl 2))
else
(if (decide (x8.2.2.2 > 400)) = true then
some (.done (.inl 2))
else
(if (decide (i_s3_l6 > 0)) = true then
((idx p0_0 (IntKind.i64.wrap (i_s3_l6 - 1))).bind fun x14 =>
(if (decide (x8.2.2.1 < x14.2.2.1)) = true then
some (.done (.inl 12))
else
some (.next (IntKind.i64.wrap (i_s3_l6 + 1)))))
else
some (.next (IntKind.i64.wrap (i_s3_l6 + 1)))))))))))))
else
some (.done (.inr ())))

def r11_Valid (p0_0 : List (Int × Int × Int × Int)) (p0_1 : Int) : Option Int :=
(if (decide (((p0_0).length : Int) > 96)) = true then
some 3
else
(if (decide (p0_1 < 0)) = true then
some 2
else
(if (decide (p0_1 > 12)) = true then
some 2
else
((loop (r11_Valid_L6 p0_0) 0).bind fun d => match d with
| (.inl t2__s2_x600) => some t2__s2_x600
| (.inr _) => some 0))))

theorem r11_Valid_w (a_p0_0 : Option Addr) (c_p0_0 : Nat) (p0_0 : List (Int × Int × Int × Int)) (p0_1 : Int) (r : Int) (w : World) (M : List Nat) (hms : MS w [M]) (hs_p0_0 : SlR (eIt4) w (fl [M]) a_p0_0 c_p0_0 p0_0) (h : r11_Valid p0_0 p0_1 = some r) : CallVC Try.prog 57 [.agg #[Vl a_p0_0 p0_0 c_p0_0, Vi p0_1]] w fun v w' => v = Vi r ∧ Ev [] w w' := by
 refine calls_vc hmx Try.func57 (by kernel_rfl) rfl (rs := [.tmp 2]) rfl (by kernel_rfl) (args := [.agg #[Vl a_p0_0 p0_0 c_p0_0, Vi p0_1]]) rfl ?_
 have hev : Ev [] w w := Ev.refl _ _
 have hfr : FR w.heap.size [] := FR.nil _
 refine c_sp ?_
 refine x_box (xv := .agg #[Vl a_p0_0 p0_0 c_p0_0, Vi p0_1]) rfl rfl rfl (fun b2 w2 hq2 hb2 he2 hz2 => ?_)
 replace hb2 : w2.heap[b2]? = some (.cells #[Vl a_p0_0 p0_0 c_p0_0, Vi p0_1] 25 (0, 0)) := hb2
 refine inl1 ?_
 have hst := Stp.box (ls := [M]) he2 hq2
 replace hs_p0_0 := hs_p0_0.step hst
 replace hms := hms.box he2 hq2 hb2
 replace hfr := hfr.box hev.size hq2
 replace hev := hev.ext he2
 refine x_u 1 [(2, Vi 0)] ?_
 refine x_ek ?_
 refine c_seq ?_
 refine c_sp ?_
 refine x_fieldAddr (xv := Vp b2 0) (Vp b2 0) rfl rfl rfl (reads_field tfld25_0 _ _) ?_
 refine x_load (xv := Vp b2 0) (Vl a_p0_0 p0_0 c_p0_0) rfl rfl rfl (reads_box tcell23 hb2 nn 0 _ rfl) ?_
 refine x_len (vs := [Vl a_p0_0 p0_0 c_p0_0]) (Vi ((p0_0).length : Int)) rfl rfl rfl (reads_len tsl23 _ _ _ _ _) ?_
 refine x_u 1 [(8, .bool (decide (((p0_0).length : Int) > 96)))] ?_
 refine x_ek ?_
 refine c_if (decide (((p0_0).length : Int) > 96)) rfl h (fun h => ?_) (fun h => ?_)
 · refine c_sp ?_
   refine x_u 1 [(2, Vi 3)] ?_
   refine x_ek ?_
   refine c_ret ?_
   refine k_then_ret ?_
   refine r_ret (r_vals [Vi 3] ⟨rfl, trivial⟩ ?_)
   have hx := some_inj h
   subst hx
   have hmr : MS w2 [M] := hms.pick [some 1] _ rfl
   have hsu : ∀ x ∈ fl [M], x ∈ fl [[b2], M] := pick_sub [some 1] _ rfl
   exact ⟨rfl, hev⟩
 refine c_skip ?_
 refine k_then ?_
 refine c_seq ?_
 refine c_sp ?_
 refine x_fieldAddr (xv := Vp b2 0) (Vp b2 1) rfl rfl rfl (reads_field tfld25_1 _ _) ?_
 refine x_load (xv := Vp b2 1) (Vi p0_1) rfl rfl rfl (reads_box tcell3 hb2 nn 1 _ rfl) ?_
 refine x_u 2 [(11, .bool (decide (p0_1 < 0))), (12, .bool (decide (p0_1 < 0)))] ?_
 refine x_if 12 (decide (p0_1 < 0)) rfl h (fun h => ?_) (fun h => ?_)
 · refine x_u 4 [(13, undef), (14, undef), (15, undef), (16, .bool true)] ?_
   refine x_ek ?_
   refine c_norm [(1, Vp b2 0), (16, .bool true)] ⟨rfl, rfl, trivial⟩ (fun J => ?_)
   refine c_true rfl ?_
   refine c_sp ?_
   refine x_u 1 [(2, Vi 2)] ?_
   refine x_ek ?_
   refine c_ret ?_
   refine k_then_ret ?_
   refine r_ret (r_vals [Vi 2] ⟨rfl, trivial⟩ ?_)
   have hx := some_inj h
   subst hx
   have hmr : MS w2 [M] := hms.pick [some 1] _ rfl
   have hsu : ∀ x ∈ fl [M], x ∈ fl [[b2], M] := pick_sub [some 1] _ rfl
   exact ⟨rfl, hev⟩
 refine x_fieldAddr (xv := Vp b2 0) (Vp b2 1) rfl rfl rfl (reads_field tfld25_1 _ _) ?_
 refine x_load (xv := Vp b2 1) (Vi p0_1) rfl rfl rfl (reads_box tcell3 hb2 nn 1 _ rfl) ?_
 refine x_u 2 [(15, .bool (decide (p0_1 > 12))), (16, .bool (decide (p0_1 > 12)))] ?_
 refine x_ek ?_
 refine c_norm [(1, Vp b2 0), (16, .bool (decide (p0_1 > 12)))] ⟨rfl, rfl, trivial⟩ (fun J => ?_)
 refine c_if (decide (p0_1 > 12)) rfl h (fun h => ?_) (fun h => ?_)
 · refine c_sp ?_
   refine x_u 1 [(2, Vi 2)] ?_
   refine x_ek ?_
   refine c_ret ?_
   refine k_then_ret ?_
   refine r_ret (r_vals [Vi 2] ⟨rfl, trivial⟩ ?_)
   have hx := some_inj h
   subst hx
   have hmr : MS w2 [M] := hms.pick [some 1] _ rfl
   have hsu : ∀ x ∈ fl [M], x ∈ fl [[b2], M] := pick_sub [some 1] _ rfl
   exact ⟨rfl, hev⟩
 refine c_skip ?_
 refine k_then ?_
 refine c_seq ?_
 refine c_sp ?_
 refine x_u 1 [(3, Vi 0)] ?_
 refine x_ek ?_
 refine c_block ?_
 obtain ⟨d6, hd6, h6⟩ := bind_some h
 obtain ⟨m6, hd6⟩ := loop_some hd6
 refine c_loop (loop_rule hmx (σ := Nat × Int) (fun s => match s with | (_, i_s3_l6) => [(1, Vp b2 0), (3, Vi i_s3_l6)]) (fun s w' => match s with | (m, i_s3_l6) => loopN (r11_Valid_L6 p0_0) m i_s3_l6 = some d6 ∧ Ev [] w w' ∧ MS w' [[b2], M] ∧ FR w.heap.size [[b2]] ∧ SlR (eIt4) w' (fl [[b2], M]) a_p0_0 c_p0_0 p0_0 ∧ w'.heap[b2]? = some (.cells #[Vl a_p0_0 p0_0 c_p0_0, Vi p0_1] 25 (0, 0))) (fun s => s.1) (m6, 0) ⟨rfl, rfl, trivial⟩ ⟨hd6, hev, hms, hfr, hs_p0_0, hb2⟩ ?_)
 rintro ⟨m6, i_s3_l6⟩ J wl6 ⟨hn6, hev, hms, hfr, hs_p0_0, hb2⟩
 rcases m6 with _ | m6
 · exact (loopN_zero hn6).elim
 obtain ⟨t6, h, hn6⟩ := bind_some hn6
 refine c_seq ?_
 refine c_sp ?_
 refine x_u 1 [(17, Vi i_s3_l6)] ?_
 refine x_fieldAddr (xv := Vp b2 0) (Vp b2 0) rfl rfl rfl (reads_field tfld25_0 _ _) ?_
 refine x_load (xv := Vp b2 0) (Vl a_p0_0 p0_0 c_p0_0) rfl rfl rfl (reads_box tcell23 hb2 nn 0 _ rfl) ?_
 refine x_len (vs := [Vl a_p0_0 p0_0 c_p0_0]) (Vi ((p0_0).length : Int)) rfl rfl rfl (reads_len tsl23 _ _ _ _ _) ?_
 refine x_u 1 [(21, .bool (decide (i_s3_l6 < ((p0_0).length : Int))))] ?_
 refine x_ek ?_
 refine c_norm [(1, Vp b2 0), (3, Vi i_s3_l6), (21, .bool (decide (i_s3_l6 < ((p0_0).length : Int))))] ⟨rfl, rfl, rfl, trivial⟩ (fun J => ?_)
 refine c_if (decide (i_s3_l6 < ((p0_0).length : Int))) rfl h (fun h => ?_) (fun h => ?_)
 · refine c_skip ?_
   refine k_then ?_
   refine c_seq ?_
   refine c_block ?_
   refine c_sp ?_
   refine x_fieldAddr (xv := Vp b2 0) (Vp b2 0) rfl rfl rfl (reads_field tfld25_0 _ _) ?_
   refine x_load (xv := Vp b2 0) (Vl a_p0_0 p0_0 c_p0_0) rfl rfl rfl (reads_box tcell23 hb2 nn 0 _ rfl) ?_
   refine x_u 1 [(26, Vi i_s3_l6)] ?_
   obtain ⟨x8, hx8, h⟩ := bind_some h
   obtain ⟨ad8, cs8, hr8, hc8, hR⟩ := reads_index (Mo := []) tsl23 hs_p0_0 hx8
   obtain ⟨_, _, rfl, rfl, ⟨_, _, rfl, rfl, ⟨_, _, rfl, rfl, rfl⟩⟩⟩ := hR
   refine x_indexAddr (xv := Vl a_p0_0 p0_0 c_p0_0) (yv := Vi i_s3_l6) (.pointer (some ad8)) rfl rfl rfl rfl hr8 ?_
   refine x_load (xv := .pointer (some ad8)) (.agg #[Vi x8.1, Vi x8.2.1, Vi x8.2.2.1, Vi x8.2.2.2]) rfl rfl rfl (reads_agg tagg79 hc8 (fun _ h => by cases h)) ?_
   refine x_alloc (z := .agg #[Vi 0, Vi 0, Vi 0, Vi 0]) rfl rfl (by kernel_rfl) (fun b10 w10 hq10 hb10 he10 hz10 => ?_)
   replace hb10 : w10.heap[b10]? = some (.cells #[Vi 0, Vi 0, Vi 0, Vi 0] 79 (0, 0)) := hb10
   refine inl1 ?_
   have hst := Stp.box (ls := [[b2], M]) he10 hq10
   replace hb2 := he10.box hb2 nn
   replace hs_p0_0 := hs_p0_0.step hst
   replace hc8 := hc8.step hst
   replace hms := hms.box he10 hq10 hb10
   replace hfr := hfr.box hev.size hq10
   replace hev := hev.ext he10
   obtain ⟨w12, hr12, hb12, he12⟩ := store_boxagg 0 [Vi x8.1, Vi x8.2.1, Vi x8.2.2.1, Vi x8.2.2.2] #[Vi x8.1, Vi x8.2.1, Vi x8.2.2.1, Vi x8.2.2.2] tagg79 hb10 rfl rfl rfl
   refine x_store w12 (xv := Vp b10 0) (yv := .agg #[Vi x8.1, Vi x8.2.1, Vi x8.2.2.1, Vi x8.2.2.2]) rfl rfl rfl rfl hr12 ?_
   refine inl1 ?_
   have hst := Stp.ev' (ls := [[b10], [b2], M]) he12 (mem_flat 0 rfl)
   replace hb2 := he12.box hb2 (hms.apart 1 0 rfl rfl rfl _ mem1)
   replace hs_p0_0 := hs_p0_0.step hst
   replace hc8 := hc8.step hst
   replace hms := hms.ev he12
   replace hev := hev.then he12 (fun b hb => .inr (hfr.at 0 rfl b hb))
   replace hb10 := hb12
   refine x_ek ?_
   refine c_seq ?_
   refine c_sp ?_
   refine x_fieldAddr (xv := Vp b10 0) (Vp b10 0) rfl rfl rfl (reads_field tfld79_0 _ _) ?_
   refine x_load (xv := Vp b10 0) (Vi x8.1) rfl rfl rfl (reads_box tcell3 hb10 nn 0 _ rfl) ?_
   refine x_u 2 [(31, .bool (decide (x8.1 < 0))), (32, .bool (decide (x8.1 < 0)))] ?_
   refine x_if 32 (decide (x8.1 < 0)) rfl h (fun h => ?_) (fun h => ?_)
   · refine x_u 34 [(33, undef), (34, undef), (35, undef), (36, .bool true), (37, .bool true), (38, undef), (39, undef), (40, undef), (41, .bool true), (42, .bool true), (43, undef), (44, undef), (45, undef), (46, .bool true), (47, .bool true), (48, undef), (49, undef), (50, undef), (51, .bool true), (52, .bool true), (53, undef), (54, undef), (55, undef), (56, .bool true), (57, .bool true), (58, undef), (59, undef), (60, undef), (61, .bool true), (62, .bool true), (63, undef), (64, undef), (65, undef), (66, .bool true)] ?_
     refine x_ek ?_
     refine c_norm [(1, Vp b2 0), (3, Vi i_s3_l6), (4, Vp b10 0), (66, .bool true)] ⟨rfl, rfl, rfl, rfl, trivial⟩ (fun J => ?_)
     refine c_true rfl ?_
     refine c_sp ?_
     refine x_u 1 [(2, Vi 2)] ?_
     refine x_ek ?_
     refine c_ret ?_
     refine k_then_ret ?_
     refine k_block_ret ?_
     refine k_then_ret ?_
     have hx := some_inj h
     subst hx
     have hy := some_inj hn6
     subst hy
     replace h := h6
     refine k_then_ret ?_
     refine k_block_ret ?_
     refine k_then_ret ?_
     refine r_ret (r_vals [Vi 2] ⟨rfl, trivial⟩ ?_)
     have hx := some_inj h
     subst hx
     have hmr : MS w12 [M] := hms.pick [some 2] _ rfl
     have hsu : ∀ x ∈ fl [M], x ∈ fl [[b10], [b2], M] := pick_sub [some 2] _ rfl
     exact ⟨rfl, hev⟩
   refine x_fieldAddr (xv := Vp b10 0) (Vp b10 0) rfl rfl rfl (reads_field tfld79_0 _ _) ?_
   refine x_load (xv := Vp b10 0) (Vi x8.1) rfl rfl rfl (reads_box tcell3 hb10 nn 0 _ rfl) ?_
   refine x_u 3 [(35, .bool (decide (x8.1 ≥ 16))), (36, .bool (decide (x8.1 ≥ 16))), (37, .bool (decide (x8.1 ≥ 16)))] ?_
   refine x_if 37 (decide (x8.1 ≥ 16)) rfl h (fun h => ?_) (fun h => ?_)
   · refine x_u 29 [(38, undef), (39, undef), (40, undef), (41, .bool true), (42, .bool true), (43, undef), (44, undef), (45, undef), (46, .bool true), (47, .bool true), (48, undef), (49, undef), (50, undef), (51, .bool true), (52, .bool true), (53, undef), (54, undef), (55, undef), (56, .bool true), (57, .bool true), (58, undef), (59, undef), (60, undef), (61, .bool true), (62, .bool true), (63, undef), (64, undef), (65, undef), (66, .bool true)] ?_
     refine x_ek ?_
     refine c_norm [(1, Vp b2 0), (3, Vi i_s3_l6), (4, Vp b10 0), (66, .bool true)] ⟨rfl, rfl, rfl, rfl, trivial⟩ (fun J => ?_)
     refine c_true rfl ?_
     refine c_sp ?_
     refine x_u 1 [(2, Vi 2)] ?_
     refine x_ek ?_
     refine c_ret ?_
     refine k_then_ret ?_
     refine k_block_ret ?_
     refine k_then_ret ?_
     have hx := some_inj h
     subst hx
     have hy := some_inj hn6
     subst hy
     replace h := h6
     refine k_then_ret ?_
     refine k_block_ret ?_
     refine k_then_ret ?_
     refine r_ret (r_vals [Vi 2] ⟨rfl, trivial⟩ ?_)
     have hx := some_inj h
     subst hx
     have hmr : MS w12 [M] := hms.pick [some 2] _ rfl
     have hsu : ∀ x ∈ fl [M], x ∈ fl [[b10], [b2], M] := pick_sub [some 2] _ rfl
     exact ⟨rfl, hev⟩
   refine x_fieldAddr (xv := Vp b10 0) (Vp b10 1) rfl rfl rfl (reads_field tfld79_1 _ _) ?_
   refine x_load (xv := Vp b10 1) (Vi x8.2.1) rfl rfl rfl (reads_box tcell3 hb10 nn 1 _ rfl) ?_
   refine x_u 3 [(40, .bool (decide (x8.2.1 < 0))), (41, .bool (decide (x8.2.1 < 0))), (42, .bool (decide (x8.2.1 < 0)))] ?_
   refine x_if 42 (decide (x8.2.1 < 0)) rfl h (fun h => ?_) (fun h => ?_)
   · refine x_u 24 [(43, undef), (44, undef), (45, undef), (46, .bool true), (47, .bool true), (48, undef), (49, undef), (50, undef), (51, .bool true), (52, .bool true), (53, undef), (54, undef), (55, undef), (56, .bool true), (57, .bool true), (58, undef), (59, undef), (60, undef), (61, .bool true), (62, .bool true), (63, undef), (64, undef), (65, undef), (66, .bool true)] ?_
     refine x_ek ?_
     refine c_norm [(1, Vp b2 0), (3, Vi i_s3_l6), (4, Vp b10 0), (66, .bool true)] ⟨rfl, rfl, rfl, rfl, trivial⟩ (fun J => ?_)
     refine c_true rfl ?_
     refine c_sp ?_
     refine x_u 1 [(2, Vi 2)] ?_
     refine x_ek ?_
     refine c_ret ?_
     refine k_then_ret ?_
     refine k_block_ret ?_
     refine k_then_ret ?_
     have hx := some_inj h
     subst hx
     have hy := some_inj hn6
     subst hy
     replace h := h6
     refine k_then_ret ?_
     refine k_block_ret ?_
     refine k_then_ret ?_
     refine r_ret (r_vals [Vi 2] ⟨rfl, trivial⟩ ?_)
     have hx := some_inj h
     subst hx
     have hmr : MS w12 [M] := hms.pick [some 2] _ rfl
     have hsu : ∀ x ∈ fl [M], x ∈ fl [[b10], [b2], M] := pick_sub [some 2] _ rfl
     exact ⟨rfl, hev⟩
   refine x_fieldAddr (xv := Vp b10 0) (Vp b10 1) rfl rfl rfl (reads_field tfld79_1 _ _) ?_
   refine x_load (xv := Vp b10 1) (Vi x8.2.1) rfl rfl rfl (reads_box tcell3 hb10 nn 1 _ rfl) ?_
   refine x_u 3 [(45, .bool (decide (x8.2.1 ≥ 32))), (46, .bool (decide (x8.2.1 ≥ 32))), (47, .bool (decide (x8.2.1 ≥ 32)))] ?_
   refine x_if 47 (decide (x8.2.1 ≥ 32)) rfl h (fun h => ?_) (fun h => ?_)
   · refine x_u 19 [(48, undef), (49, undef), (50, undef), (51, .bool true), (52, .bool true), (53, undef), (54, undef), (55, undef), (56, .bool true), (57, .bool true), (58, undef), (59, undef), (60, undef), (61, .bool true), (62, .bool true), (63, undef), (64, undef), (65, undef), (66, .bool true)] ?_
     refine x_ek ?_
     refine c_norm [(1, Vp b2 0), (3, Vi i_s3_l6), (4, Vp b10 0), (66, .bool true)] ⟨rfl, rfl, rfl, rfl, trivial⟩ (fun J => ?_)
     refine c_true rfl ?_
     refine c_sp ?_
     refine x_u 1 [(2, Vi 2)] ?_
     refine x_ek ?_
     refine c_ret ?_
     refine k_then_ret ?_
     refine k_block_ret ?_
     refine k_then_ret ?_
     have hx := some_inj h
     subst hx
     have hy := some_inj hn6
     subst hy
     replace h := h6
     refine k_then_ret ?_
     refine k_block_ret ?_
     refine k_then_ret ?_
     refine r_ret (r_vals [Vi 2] ⟨rfl, trivial⟩ ?_)
     have hx := some_inj h
     subst hx
     have hmr : MS w12 [M] := hms.pick [some 2] _ rfl
     have hsu : ∀ x ∈ fl [M], x ∈ fl [[b10], [b2], M] := pick_sub [some 2] _ rfl
     exact ⟨rfl, hev⟩
   refine x_fieldAddr (xv := Vp b10 0) (Vp b10 2) rfl rfl rfl (reads_field tfld79_2 _ _) ?_
   refine x_load (xv := Vp b10 2) (Vi x8.2.2.1) rfl rfl rfl (reads_box tcell3 hb10 nn 2 _ rfl) ?_
   refine x_u 3 [(50, .bool (decide (x8.2.2.1 < 0))), (51, .bool (decide (x8.2.2.1 < 0))), (52, .bool (decide (x8.2.2.1 < 0)))] ?_
   refine x_if 52 (decide (x8.2.2.1 < 0)) rfl h (fun h => ?_) (fun h => ?_)
   · refine x_u 14 [(53, undef), (54, undef), (55, undef), (56, .bool true), (57, .bool true), (58, undef), (59, undef), (60, undef), (61, .bool true), (62, .bool true), (63, undef), (64, undef), (65, undef), (66, .bool true)] ?_
     refine x_ek ?_
     refine c_norm [(1, Vp b2 0), (3, Vi i_s3_l6), (4, Vp b10 0), (66, .bool true)] ⟨rfl, rfl, rfl, rfl, trivial⟩ (fun J => ?_)
     refine c_true rfl ?_
     refine c_sp ?_
     refine x_u 1 [(2, Vi 2)] ?_
     refine x_ek ?_
     refine c_ret ?_
     refine k_then_ret ?_
     refine k_block_ret ?_
     refine k_then_ret ?_
     have hx := some_inj h
     subst hx
     have hy := some_inj hn6
     subst hy
     replace h := h6
     refine k_then_ret ?_
     refine k_block_ret ?_
     refine k_then_ret ?_
     refine r_ret (r_vals [Vi 2] ⟨rfl, trivial⟩ ?_)
     have hx := some_inj h
     subst hx
     have hmr : MS w12 [M] := hms.pick [some 2] _ rfl
     have hsu : ∀ x ∈ fl [M], x ∈ fl [[b10], [b2], M] := pick_sub [some 2] _ rfl
     exact ⟨rfl, hev⟩
   refine x_fieldAddr (xv := Vp b10 0) (Vp b10 2) rfl rfl rfl (reads_field tfld79_2 _ _) ?_
   refine x_load (xv := Vp b10 2) (Vi x8.2.2.1) rfl rfl rfl (reads_box tcell3 hb10 nn 2 _ rfl) ?_
   refine x_u 3 [(55, .bool (decide (x8.2.2.1 ≥ 13))), (56, .bool (decide (x8.2.2.1 ≥ 13))), (57, .bool (decide (x8.2.2.1 ≥ 13)))] ?_
   refine x_if 57 (decide (x8.2.2.1 ≥ 13)) rfl h (fun h => ?_) (fun h => ?_)
   · refine x_u 9 [(58, undef), (59, undef), (60, undef), (61, .bool true), (62, .bool true), (63, undef), (64, undef), (65, undef), (66, .bool true)] ?_
     refine x_ek ?_
     refine c_norm [(1, Vp b2 0), (3, Vi i_s3_l6), (4, Vp b10 0), (66, .bool true)] ⟨rfl, rfl, rfl, rfl, trivial⟩ (fun J => ?_)
     refine c_true rfl ?_
     refine c_sp ?_
     refine x_u 1 [(2, Vi 2)] ?_
     refine x_ek ?_
     refine c_ret ?_
     refine k_then_ret ?_
     refine k_block_ret ?_
     refine k_then_ret ?_
     have hx := some_inj h
     subst hx
     have hy := some_inj hn6
     subst hy
     replace h := h6
     refine k_then_ret ?_
     refine k_block_ret ?_
     refine k_then_ret ?_
     refine r_ret (r_vals [Vi 2] ⟨rfl, trivial⟩ ?_)
     have hx := some_inj h
     subst hx
     have hmr : MS w12 [M] := hms.pick [some 2] _ rfl
     have hsu : ∀ x ∈ fl [M], x ∈ fl [[b10], [b2], M] := pick_sub [some 2] _ rfl
     exact ⟨rfl, hev⟩
   refine x_fieldAddr (xv := Vp b10 0) (Vp b10 3) rfl rfl rfl (reads_field tfld79_3 _ _) ?_
   refine x_load (xv := Vp b10 3) (Vi x8.2.2.2) rfl rfl rfl (reads_box tcell3 hb10 nn 3 _ rfl) ?_
   refine x_u 3 [(60, .bool (decide (x8.2.2.2 < 1))), (61, .bool (decide (x8.2.2.2 < 1))), (62, .bool (decide (x8.2.2.2 < 1)))] ?_
   refine x_if 62 (decide (x8.2.2.2 < 1)) rfl h (fun h => ?_) (fun h => ?_)
   · refine x_u 4 [(63, undef), (64, undef), (65, undef), (66, .bool true)] ?_
     refine x_ek ?_
     refine c_norm [(1, Vp b2 0), (3, Vi i_s3_l6), (4, Vp b10 0), (66, .bool true)] ⟨rfl, rfl, rfl, rfl, trivial⟩ (fun J => ?_)
     refine c_true rfl ?_
     refine c_sp ?_
     refine x_u 1 [(2, Vi 2)] ?_
     refine x_ek ?_
     refine c_ret ?_
     refine k_then_ret ?_
     refine k_block_ret ?_
     refine k_then_ret ?_
     have hx := some_inj h
     subst hx
     have hy := some_inj hn6
     subst hy
     replace h := h6
     refine k_then_ret ?_
     refine k_block_ret ?_
     refine k_then_ret ?_
     refine r_ret (r_vals [Vi 2] ⟨rfl, trivial⟩ ?_)
     have hx := some_inj h
     subst hx
     have hmr : MS w12 [M] := hms.pick [some 2] _ rfl
     have hsu : ∀ x ∈ fl [M], x ∈ fl [[b10], [b2], M] := pick_sub [some 2] _ rfl
     exact ⟨rfl, hev⟩
   refine x_fieldAddr (xv := Vp b10 0) (Vp b10 3) rfl rfl rfl (reads_field tfld79_3 _ _) ?_
   refine x_load (xv := Vp b10 3) (Vi x8.2.2.2) rfl rfl rfl (reads_box tcell3 hb10 nn 3 _ rfl) ?_
   refine x_u 2 [(65, .bool (decide (x8.2.2.2 > 400))), (66, .bool (decide (x8.2.2.2 > 400)))] ?_
   refine x_ek ?_
   refine c_norm [(1, Vp b2 0), (3, Vi i_s3_l6), (4, Vp b10 0), (66, .bool (decide (x8.2.2.2 > 400)))] ⟨rfl, rfl, rfl, rfl, trivial⟩ (fun J => ?_)
   refine c_if (decide (x8.2.2.2 > 400)) rfl h (fun h => ?_) (fun h => ?_)
   · refine c_sp ?_
     refine x_u 1 [(2, Vi 2)] ?_
     refine x_ek ?_
     refine c_ret ?_
     refine k_then_ret ?_
     refine k_block_ret ?_
     refine k_then_ret ?_
     have hx := some_inj h
     subst hx
     have hy := some_inj hn6
     subst hy
     replace h := h6
     refine k_then_ret ?_
     refine k_block_ret ?_
     refine k_then_ret ?_
     refine r_ret (r_vals [Vi 2] ⟨rfl, trivial⟩ ?_)
     have hx := some_inj h
     subst hx
     have hmr : MS w12 [M] := hms.pick [some 2] _ rfl
     have hsu : ∀ x ∈ fl [M], x ∈ fl [[b10], [b2], M] := pick_sub [some 2] _ rfl
     exact ⟨rfl, hev⟩
   refine c_skip ?_
   refine k_then ?_
   refine c_seq ?_
   refine c_drawn [] [(0, false), (1, false), (2, false), (3, false), (4, false), (5, false), (6, false), (7, false), (8, false), (9, false), (10, false), (11, false), (12, false), (13, false)] _ (by kernel_rfl) rfl ?_
   have hst := Stp.ext (ls := [[b10], [b2], M]) (Ev.drew w12)
   replace hb2 := (Ev.drew w12).box hb2 nn
   replace hs_p0_0 := hs_p0_0.step hst
   replace hb10 := (Ev.drew w12).box hb10 nn
   replace hms := hms.ev (Ev.drew w12)
   replace hev := hev.ext (Ev.drew w12)
   refine x_u 3 [(67, Vi i_s3_l6), (68, .bool (decide (i_s3_l6 > 0))), (69, .bool (decide (i_s3_l6 > 0)))] ?_
   refine x_if 69 (decide (i_s3_l6 > 0)) rfl h (fun h => ?_) (fun h => ?_)
   · refine x_fieldAddr (xv := Vp b10 0) (Vp b10 2) rfl rfl rfl (reads_field tfld79_2 _ _) ?_
     refine x_load (xv := Vp b10 2) (Vi x8.2.2.1) rfl rfl rfl (reads_box tcell3 hb10 nn 2 _ rfl) ?_
     refine x_fieldAddr (xv := Vp b2 0) (Vp b2 0) rfl rfl rfl (reads_field tfld25_0 _ _) ?_
     refine x_load (xv := Vp b2 0) (Vl a_p0_0 p0_0 c_p0_0) rfl rfl rfl (reads_box tcell23 hb2 nn 0 _ rfl) ?_
     refine x_u 2 [(74, Vi i_s3_l6), (75, Vi (IntKind.i64.wrap (i_s3_l6 - 1)))] ?_
     obtain ⟨x14, hx14, h⟩ := bind_some h
     obtain ⟨ad14, cs14, hr14, hc14, hR⟩ := reads_index (Mo := []) tsl23 hs_p0_0 hx14
     obtain ⟨_, _, rfl, rfl, ⟨_, _, rfl, rfl, ⟨_, _, rfl, rfl, rfl⟩⟩⟩ := hR
     refine x_indexAddr (xv := Vl a_p0_0 p0_0 c_p0_0) (yv := Vi (IntKind.i64.wrap (i_s3_l6 - 1))) (.pointer (some ad14)) rfl rfl rfl rfl hr14 ?_
     refine x_fieldAddr (xv := .pointer (some ad14)) (.pointer (some (Addr.add ad14 2))) rfl rfl rfl (reads_field tfld79_2 _ _) ?_
     refine x_load (xv := .pointer (some (Addr.add ad14 2))) (Vi x14.2.2.1) rfl rfl rfl (reads_cell tcell3 hc14 (fun _ h => by cases h) 2 _ rfl) ?_
     refine x_u 2 [(79, .bool (decide (x8.2.2.1 < x14.2.2.1))), (80, .bool (decide (x8.2.2.1 < x14.2.2.1)))] ?_
     refine x_ek ?_
     refine c_norm [(1, Vp b2 0), (3, Vi i_s3_l6), (80, .bool (decide (x8.2.2.1 < x14.2.2.1)))] ⟨rfl, rfl, rfl, trivial⟩ (fun J => ?_)
     refine c_if (decide (x8.2.2.1 < x14.2.2.1)) rfl h (fun h => ?_) (fun h => ?_)
     · refine c_sp ?_
       refine x_u 1 [(2, Vi 12)] ?_
       refine x_ek ?_
       refine c_ret ?_
       refine k_block_ret ?_
       refine k_then_ret ?_
       have hx := some_inj h
       subst hx
       have hy := some_inj hn6
       subst hy
       replace h := h6
       refine k_then_ret ?_
       refine k_block_ret ?_
       refine k_then_ret ?_
       refine r_ret (r_vals [Vi 12] ⟨rfl, trivial⟩ ?_)
       have hx := some_inj h
       subst hx
       have hmr : MS (w12).drew [M] := hms.pick [some 2] _ rfl
       have hsu : ∀ x ∈ fl [M], x ∈ fl [[b10], [b2], M] := pick_sub [some 2] _ rfl
       exact ⟨rfl, hev⟩
     refine c_skip ?_
     refine k_block ?_
     refine k_then ?_
     refine c_plain ?_
     refine x_u 3 [(22, Vi i_s3_l6), (23, Vi (IntKind.i64.wrap (i_s3_l6 + 1))), (3, Vi (IntKind.i64.wrap (i_s3_l6 + 1)))] ?_
     refine x_end rfl ?_
     have hx := some_inj h
     subst hx
     have hpk : MS (w12).drew [[b2], M] := hms.pick [some 1, some 2] _ rfl
     have hsu : ∀ x ∈ fl [[b2], M], x ∈ fl [[b10], [b2], M] := pick_sub [some 1, some 2] _ rfl
     replace hs_p0_0 := hs_p0_0.sub hsu
     replace hms := hpk
     replace hfr : FR w.heap.size [[b2]] := hfr.pick [some 1] _ rfl
     clear hpk hsu
     exact k_then ⟨(m6, IntKind.i64.wrap (i_s3_l6 + 1)), ⟨rfl, rfl, trivial⟩, ⟨hn6, hev, hms, hfr, hs_p0_0, hb2⟩, Nat.lt_succ_self _⟩
   refine x_u 11 [(70, undef), (71, undef), (72, undef), (73, undef), (74, undef), (75, undef), (76, undef), (77, undef), (78, undef), (79, undef), (80, .bool false)] ?_
   refine x_ek ?_
   refine c_norm [(1, Vp b2 0), (3, Vi i_s3_l6), (80, .bool false)] ⟨rfl, rfl, rfl, trivial⟩ (fun J => ?_)
   refine c_false rfl ?_
   refine c_skip ?_
   refine k_block ?_
   refine k_then ?_
   refine c_plain ?_
   refine x_u 3 [(22, Vi i_s3_l6), (23, Vi (IntKind.i64.wrap (i_s3_l6 + 1))), (3, Vi (IntKind.i64.wrap (i_s3_l6 + 1)))] ?_
   refine x_end rfl ?_
   have hx := some_inj h
   subst hx
   have hpk : MS (w12).drew [[b2], M] := hms.pick [some 1, some 2] _ rfl
   have hsu : ∀ x ∈ fl [[b2], M], x ∈ fl [[b10], [b2], M] := pick_sub [some 1, some 2] _ rfl
   replace hs_p0_0 := hs_p0_0.sub hsu
   replace hms := hpk
   replace hfr : FR w.heap.size [[b2]] := hfr.pick [some 1] _ rfl
   clear hpk hsu
   exact k_then ⟨(m6, IntKind.i64.wrap (i_s3_l6 + 1)), ⟨rfl, rfl, trivial⟩, ⟨hn6, hev, hms, hfr, hs_p0_0, hb2⟩, Nat.lt_succ_self _⟩
 refine c_exit ?_
 refine k_then_exit ?_
 have hx := some_inj h
 subst hx
 have hy := some_inj hn6
 subst hy
 replace h := h6
 refine k_then_exit ?_
 refine k_block_in ?_
 refine k_then ?_
 refine c_norm [] trivial (fun J => ?_)
 refine c_sp ?_
 refine x_u 1 [(2, Vi 0)] ?_
 refine x_ek ?_
 refine c_ret ?_
 refine r_ret (r_vals [Vi 0] ⟨rfl, trivial⟩ ?_)
 have hx := some_inj h
 subst hx
 have hmr : MS wl6 [M] := hms.pick [some 1] _ rfl
 have hsu : ∀ x ∈ fl [M], x ∈ fl [[b2], M] := pick_sub [some 1] _ rfl
 exact ⟨rfl, hev⟩
def r11_Kind_J9 (p1 : Int) (p2 : Int) (t19__s19_j9 : Bool) : Option Int :=
(if t19__s19_j9 = true then
some 0
else
(if (decide (p2 < p1)) = true then
some 2
else
some 1))

def r11_Kind_J4 (p1 : Int) (p2 : Int) (e10_j4_0 : Int) (e10_j4_1 : Int) (e10_j4_2 : Int) (e10_j4_3 : Int) (e12_j4_0 : Int) (e12_j4_1 : Int) (e12_j4_2 : Int) (e12_j4_3 : Int) : Option Int :=
(if (e10_j4_0 != e12_j4_0) = true then
r11_Kind_J9 p1 p2 true
else
r11_Kind_J9 p1 p2 (decide (e10_j4_1 ≥ e12_j4_1)))

def r11_Kind (p0_0 : List (Int × Int × Int × Int)) (p0_1 : Int) (p1 : Int) (p2 : Int) : Option Int :=
((idx p0_0 p1).bind fun x5 =>
((idx p0_0 p2).bind fun x7 =>
r11_Kind_J4 p1 p2 x5.1 x5.2.1 x5.2.2.1 x5.2.2.2 x7.1 x7.2.1 x7.2.2.1 x7.2.2.2))

theorem r11_Kind_w (a_p0_0 : Option Addr) (c_p0_0 : Nat) (p0_0 : List (Int × Int × Int × Int)) (p0_1 : Int) (p1 : Int) (p2 : Int) (r : Int) (w : World) (M : List Nat) (hms : MS w [M]) (hs_p0_0 : SlR (eIt4) w (fl [M]) a_p0_0 c_p0_0 p0_0) (h : r11_Kind p0_0 p0_1 p1 p2 = some r) : CallVC Try.prog 18 [.agg #[Vl a_p0_0 p0_0 c_p0_0, Vi p0_1], Vi p1, Vi p2] w fun v w' => v = Vi r ∧ Ev [] w w' := by
 refine calls_vc hmx Try.func18 (by kernel_rfl) rfl (rs := [.tmp 6]) rfl (by kernel_rfl) (args := [.agg #[Vl a_p0_0 p0_0 c_p0_0, Vi p0_1], Vi p1, Vi p2]) rfl ?_
 have hev : Ev [] w w := Ev.refl _ _
 have hfr : FR w.heap.size [] := FR.nil _
 refine c_sp ?_
 refine x_box (xv := .agg #[Vl a_p0_0 p0_0 c_p0_0, Vi p0_1]) rfl rfl rfl (fun b2 w2 hq2 hb2 he2 hz2 => ?_)
 replace hb2 : w2.heap[b2]? = some (.cells #[Vl a_p0_0 p0_0 c_p0_0, Vi p0_1] 25 (0, 0)) := hb2
 refine inl1 ?_
 have hst := Stp.box (ls := [M]) he2 hq2
 replace hs_p0_0 := hs_p0_0.step hst
 replace hms := hms.box he2 hq2 hb2
 replace hfr := hfr.box hev.size hq2
 replace hev := hev.ext he2
 refine x_u 1 [(6, Vi 0)] ?_
 refine x_ek ?_
 refine c_join (σ := Int × Int × Int × Int × Int × Int × Int × Int × Nat × Nat) (fun s => match s with | (e10_j4_0, e10_j4_1, e10_j4_2, e10_j4_3, e12_j4_0, e12_j4_1, e12_j4_2, e12_j4_3, b10_j4, b12_j4) => [(1, Vi p1), (2, Vi p2), (7, Vp b10_j4 0), (8, Vp b12_j4 0)]) (fun s w' => match s with | (e10_j4_0, e10_j4_1, e10_j4_2, e10_j4_3, e12_j4_0, e12_j4_1, e12_j4_2, e12_j4_3, b10_j4, b12_j4) => r11_Kind_J4 p1 p2 e10_j4_0 e10_j4_1 e10_j4_2 e10_j4_3 e12_j4_0 e12_j4_1 e12_j4_2 e12_j4_3 = some r ∧ Ev [] w w' ∧ MS w' [[b10_j4], [b12_j4], M] ∧ FR w.heap.size [[b10_j4], [b12_j4]] ∧ w'.heap[b10_j4]? = some (.cells #[Vi e10_j4_0, Vi e10_j4_1, Vi e10_j4_2, Vi e10_j4_3] 79 (0, 0)) ∧ w'.heap[b12_j4]? = some (.cells #[Vi e12_j4_0, Vi e12_j4_1, Vi e12_j4_2, Vi e12_j4_3] 79 (0, 0))) ?_ ?_
 · refine c_drawnp (newmo (w2).drew) [(0, false), (1, false), (2, false), (3, false), (4, false), (5, false), (6, false), (7, false), (8, false), (9, false)] (.alt 10 false (opsThen [(11, false), (12, false), (13, true)] .stop) (.alt 11 false (opsThen [(10, false), (12, false), (13, true)] .stop) .none_)) _ (by kernel_rfl) rfl ?_
   have hst := Stp.ext (ls := [[b2], M]) (Ev.drew w2)
   replace hs_p0_0 := hs_p0_0.step hst
   replace hb2 := (Ev.drew w2).box hb2 nn
   replace hms := hms.ev (Ev.drew w2)
   replace hev := hev.ext (Ev.drew w2)
   have hnz : ((w2).drew).heap.size = ((w2).drew).heap.size + 0 := rfl
   refine x_fieldAddr (xv := Vp b2 0) (Vp b2 0) rfl rfl rfl (reads_field tfld25_0 _ _) ?_
   refine x_load (xv := Vp b2 0) (Vl a_p0_0 p0_0 c_p0_0) rfl rfl rfl (reads_box tcell23 hb2 ((newmo_out (hms.ltat 0 rfl)) _ mem1) 0 _ rfl) ?_
   refine x_u 1 [(11, Vi p1)] ?_
   obtain ⟨x5, hx5, h⟩ := bind_some h
   obtain ⟨ad5, cs5, hr5, hc5, hR⟩ := reads_index (Mo := (newmo (w2).drew)) tsl23 hs_p0_0 hx5
   obtain ⟨_, _, rfl, rfl, ⟨_, _, rfl, rfl, ⟨_, _, rfl, rfl, rfl⟩⟩⟩ := hR
   refine x_indexAddr (xv := Vl a_p0_0 p0_0 c_p0_0) (yv := Vi p1) (.pointer (some ad5)) rfl rfl rfl rfl hr5 ?_
   refine x_load (xv := .pointer (some ad5)) (.agg #[Vi x5.1, Vi x5.2.1, Vi x5.2.2.1, Vi x5.2.2.2]) rfl rfl rfl (reads_agg tagg79 (CellsAt.newer hc5) (fun b hb => hb)) ?_
   refine x_fieldAddr (xv := Vp b2 0) (Vp b2 0) rfl rfl rfl (reads_field tfld25_0 _ _) ?_
   refine x_load (xv := Vp b2 0) (Vl a_p0_0 p0_0 c_p0_0) rfl rfl rfl (reads_box tcell23 hb2 ((newmo_out (hms.ltat 0 rfl)) _ mem1) 0 _ rfl) ?_
   refine x_u 1 [(16, Vi p2)] ?_
   obtain ⟨x7, hx7, h⟩ := bind_some h
   obtain ⟨ad7, cs7, hr7, hc7, hR⟩ := reads_index (Mo := (newmo (w2).drew)) tsl23 hs_p0_0 hx7
   obtain ⟨_, _, rfl, rfl, ⟨_, _, rfl, rfl, ⟨_, _, rfl, rfl, rfl⟩⟩⟩ := hR
   refine x_indexAddr (xv := Vl a_p0_0 p0_0 c_p0_0) (yv := Vi p2) (.pointer (some ad7)) rfl rfl rfl rfl hr7 ?_
   refine x_load (xv := .pointer (some ad7)) (.agg #[Vi x7.1, Vi x7.2.1, Vi x7.2.2.1, Vi x7.2.2.2]) rfl rfl rfl (reads_agg tagg79 (CellsAt.newer hc7) (fun b hb => hb)) ?_
   refine x_end rfl ?_
   refine t_alt _ rfl ?_ ?_
   · refine x_alloc (z := .agg #[Vi 0, Vi 0, Vi 0, Vi 0]) rfl rfl (by kernel_rfl) (fun b9 w9 hq9 hb9 he9 hz9 => ?_)
     replace hb9 : w9.heap[b9]? = some (.cells #[Vi 0, Vi 0, Vi 0, Vi 0] 79 (0, 0)) := hb9
     refine ⟨.inr (he9.nil), ?_⟩
     have hns9 : w9.heap.size = b9 + 1 := hz9
     have hnb9 : b9 = ((w2).drew).heap.size + 0 := by omega
     replace hnz : w9.heap.size = ((w2).drew).heap.size + 1 := by omega
     have hst := Stp.box (ls := [[b2], M]) he9 hq9
     replace hs_p0_0 := hs_p0_0.step hst
     replace hb2 := he9.box hb2 nn
     replace hc5 := hc5.step hst
     replace hc7 := hc7.step hst
     replace hms := hms.box he9 hq9 hb9
     replace hfr := hfr.box hev.size hq9
     replace hev := hev.ext he9
     refine x_alloc (z := .agg #[Vi 0, Vi 0, Vi 0, Vi 0]) rfl rfl (by kernel_rfl) (fun b11 w11 hq11 hb11 he11 hz11 => ?_)
     replace hb11 : w11.heap[b11]? = some (.cells #[Vi 0, Vi 0, Vi 0, Vi 0] 79 (0, 0)) := hb11
     refine ⟨.inr (he11.nil), ?_⟩
     have hns11 : w11.heap.size = b11 + 1 := hz11
     have hnb11 : b11 = ((w2).drew).heap.size + 1 := by omega
     replace hnz : w11.heap.size = ((w2).drew).heap.size + 2 := by omega
     have hst := Stp.box (ls := [[b9], [b2], M]) he11 hq11
     replace hs_p0_0 := hs_p0_0.step hst
     replace hb2 := he11.box hb2 nn
     replace hc5 := hc5.step hst
     replace hc7 := hc7.step hst
     replace hb9 := he11.box hb9 nn
     replace hms := hms.box he11 hq11 hb11
     replace hfr := hfr.box hev.size hq11
     replace hev := hev.ext he11
     obtain ⟨w13, hr13, hb13, he13⟩ := store_boxagg 0 [Vi x5.1, Vi x5.2.1, Vi x5.2.2.1, Vi x5.2.2.2] #[Vi x5.1, Vi x5.2.1, Vi x5.2.2.1, Vi x5.2.2.2] tagg79 hb9 rfl rfl rfl
     refine x_store w13 (xv := Vp b9 0) (yv := .agg #[Vi x5.1, Vi x5.2.1, Vi x5.2.2.1, Vi x5.2.2.2]) rfl rfl rfl rfl hr13 ?_
     refine ⟨.inr (he13.sub (fun x hx => by simp only [List.mem_singleton] at hx; subst hx; exact newmo_mem hnb9 rfl)), ?_⟩
     have hst := Stp.ev' (ls := [[b11], [b9], [b2], M]) he13 (mem_flat 1 rfl)
     replace hs_p0_0 := hs_p0_0.step hst
     replace hb2 := he13.box hb2 (hms.apart 2 1 rfl rfl rfl _ mem1)
     replace hc5 := hc5.step hst
     replace hc7 := hc7.step hst
     replace hb11 := he13.box hb11 (hms.apart 0 1 rfl rfl rfl _ mem1)
     replace hms := hms.ev he13
     replace hev := hev.then he13 (fun b hb => .inr (hfr.at 1 rfl b hb))
     replace hb9 := hb13
     obtain ⟨w14, hr14, hb14, he14⟩ := store_boxagg 0 [Vi x7.1, Vi x7.2.1, Vi x7.2.2.1, Vi x7.2.2.2] #[Vi x7.1, Vi x7.2.1, Vi x7.2.2.1, Vi x7.2.2.2] tagg79 hb11 rfl rfl rfl
     refine x_store w14 (xv := Vp b11 0) (yv := .agg #[Vi x7.1, Vi x7.2.1, Vi x7.2.2.1, Vi x7.2.2.2]) rfl rfl rfl rfl hr14 ?_
     refine inl1 ?_
     have hst := Stp.ev' (ls := [[b11], [b9], [b2], M]) he14 (mem_flat 0 rfl)
     replace hs_p0_0 := hs_p0_0.step hst
     replace hb2 := he14.box hb2 (hms.apart 2 0 rfl rfl rfl _ mem1)
     replace hc5 := hc5.step hst
     replace hc7 := hc7.step hst
     replace hb9 := he14.box hb9 (hms.apart 1 0 rfl rfl rfl _ mem1)
     replace hms := hms.ev he14
     replace hev := hev.then he14 (fun b hb => .inr (hfr.at 0 rfl b hb))
     replace hb11 := hb14
     refine x_end rfl ?_
     refine t_stop ?_
     have hpk : MS w14 [[b9], [b11], M] := hms.pick [some 1, some 0, some 3] _ rfl
     have hsu : ∀ x ∈ fl [[b9], [b11], M], x ∈ fl [[b11], [b9], [b2], M] := pick_sub [some 1, some 0, some 3] _ rfl
     replace hms := hpk
     replace hfr : FR w.heap.size [[b9], [b11]] := hfr.pick [some 1, some 0] _ rfl
     clear hpk hsu
     exact k_then ⟨(x5.1, x5.2.1, x5.2.2.1, x5.2.2.2, x7.1, x7.2.1, x7.2.2.1, x7.2.2.2, b9, b11), ⟨rfl, rfl, rfl, rfl, trivial⟩, h, hev, hms, hfr, hb9, hb11⟩
   refine t_alt _ rfl ?_ ?_
   · refine x_alloc (z := .agg #[Vi 0, Vi 0, Vi 0, Vi 0]) rfl rfl (by kernel_rfl) (fun b9 w9 hq9 hb9 he9 hz9 => ?_)
     replace hb9 : w9.heap[b9]? = some (.cells #[Vi 0, Vi 0, Vi 0, Vi 0] 79 (0, 0)) := hb9
     refine ⟨.inr (he9.nil), ?_⟩
     have hns9 : w9.heap.size = b9 + 1 := hz9
     have hnb9 : b9 = ((w2).drew).heap.size + 0 := by omega
     replace hnz : w9.heap.size = ((w2).drew).heap.size + 1 := by omega
     have hst := Stp.box (ls := [[b2], M]) he9 hq9
     replace hs_p0_0 := hs_p0_0.step hst
     replace hb2 := he9.box hb2 nn
     replace hc5 := hc5.step hst
     replace hc7 := hc7.step hst
     replace hms := hms.box he9 hq9 hb9
     replace hfr := hfr.box hev.size hq9
     replace hev := hev.ext he9
     refine x_alloc (z := .agg #[Vi 0, Vi 0, Vi 0, Vi 0]) rfl rfl (by kernel_rfl) (fun b11 w11 hq11 hb11 he11 hz11 => ?_)
     replace hb11 : w11.heap[b11]? = some (.cells #[Vi 0, Vi 0, Vi 0, Vi 0] 79 (0, 0)) := hb11
     refine ⟨.inr (he11.nil), ?_⟩
     have hns11 : w11.heap.size = b11 + 1 := hz11
     have hnb11 : b11 = ((w2).drew).heap.size + 1 := by omega
     replace hnz : w11.heap.size = ((w2).drew).heap.size + 2 := by omega
     have hst := Stp.box (ls := [[b9], [b2], M]) he11 hq11
     replace hs_p0_0 := hs_p0_0.step hst
     replace hb2 := he11.box hb2 nn
     replace hc5 := hc5.step hst
     replace hc7 := hc7.step hst
     replace hb9 := he11.box hb9 nn
     replace hms := hms.box he11 hq11 hb11
     replace hfr := hfr.box hev.size hq11
     replace hev := hev.ext he11
     obtain ⟨w13, hr13, hb13, he13⟩ := store_boxagg 0 [Vi x5.1, Vi x5.2.1, Vi x5.2.2.1, Vi x5.2.2.2] #[Vi x5.1, Vi x5.2.1, Vi x5.2.2.1, Vi x5.2.2.2] tagg79 hb11 rfl rfl rfl
     refine x_store w13 (xv := Vp b11 0) (yv := .agg #[Vi x5.1, Vi x5.2.1, Vi x5.2.2.1, Vi x5.2.2.2]) rfl rfl rfl rfl hr13 ?_
     refine ⟨.inr (he13.sub (fun x hx => by simp only [List.mem_singleton] at hx; subst hx; exact newmo_mem hnb11 rfl)), ?_⟩
     have hst := Stp.ev' (ls := [[b11], [b9], [b2], M]) he13 (mem_flat 0 rfl)
     replace hs_p0_0 := hs_p0_0.step hst
     replace hb2 := he13.box hb2 (hms.apart 2 0 rfl rfl rfl _ mem1)
     replace hc5 := hc5.step hst
     replace hc7 := hc7.step hst
     replace hb9 := he13.box hb9 (hms.apart 1 0 rfl rfl rfl _ mem1)
     replace hms := hms.ev he13
     replace hev := hev.then he13 (fun b hb => .inr (hfr.at 0 rfl b hb))
     replace hb11 := hb13
     obtain ⟨w14, hr14, hb14, he14⟩ := store_boxagg 0 [Vi x7.1, Vi x7.2.1, Vi x7.2.2.1, Vi x7.2.2.2] #[Vi x7.1, Vi x7.2.1, Vi x7.2.2.1, Vi x7.2.2.2] tagg79 hb9 rfl rfl rfl
     refine x_store w14 (xv := Vp b9 0) (yv := .agg #[Vi x7.1, Vi x7.2.1, Vi x7.2.2.1, Vi x7.2.2.2]) rfl rfl rfl rfl hr14 ?_
     refine inl1 ?_
     have hst := Stp.ev' (ls := [[b11], [b9], [b2], M]) he14 (mem_flat 1 rfl)
     replace hs_p0_0 := hs_p0_0.step hst
     replace hb2 := he14.box hb2 (hms.apart 2 1 rfl rfl rfl _ mem1)
     replace hc5 := hc5.step hst
     replace hc7 := hc7.step hst
     replace hb11 := he14.box hb11 (hms.apart 0 1 rfl rfl rfl _ mem1)
     replace hms := hms.ev he14
     replace hev := hev.then he14 (fun b hb => .inr (hfr.at 1 rfl b hb))
     replace hb9 := hb14
     refine x_end rfl ?_
     refine t_stop ?_
     have hpk : MS w14 [[b11], [b9], M] := hms.pick [some 0, some 1, some 3] _ rfl
     have hsu : ∀ x ∈ fl [[b11], [b9], M], x ∈ fl [[b11], [b9], [b2], M] := pick_sub [some 0, some 1, some 3] _ rfl
     replace hms := hpk
     replace hfr : FR w.heap.size [[b11], [b9]] := hfr.pick [some 0, some 1] _ rfl
     clear hpk hsu
     exact k_then ⟨(x5.1, x5.2.1, x5.2.2.1, x5.2.2.2, x7.1, x7.2.1, x7.2.2.1, x7.2.2.2, b11, b9), ⟨rfl, rfl, rfl, rfl, trivial⟩, h, hev, hms, hfr, hb11, hb9⟩
   exact t_none
 rintro ⟨e10_j4_0, e10_j4_1, e10_j4_2, e10_j4_3, e12_j4_0, e12_j4_1, e12_j4_2, e12_j4_3, b10_j4, b12_j4⟩ J wj4 ⟨h, hev, hms, hfr, hb10_j4, hb12_j4⟩
 refine c_seq ?_
 refine c_block ?_
 refine c_join (σ := Bool) (fun s => match s with | t19__s19_j9 => [(1, Vi p1), (2, Vi p2), (19, .bool t19__s19_j9)]) (fun s w' => match s with | t19__s19_j9 => r11_Kind_J9 p1 p2 t19__s19_j9 = some r ∧ Ev [] w w' ∧ MS w' [M] ∧ FR w.heap.size []) ?_ ?_
 · refine c_plain ?_
   refine x_fieldAddr (xv := Vp b10_j4 0) (Vp b10_j4 0) rfl rfl rfl (reads_field tfld79_0 _ _) ?_
   refine x_load (xv := Vp b10_j4 0) (Vi e10_j4_0) rfl rfl rfl (reads_box tcell3 hb10_j4 nn 0 _ rfl) ?_
   refine x_fieldAddr (xv := Vp b12_j4 0) (Vp b12_j4 0) rfl rfl rfl (reads_field tfld79_0 _ _) ?_
   refine x_load (xv := Vp b12_j4 0) (Vi e12_j4_0) rfl rfl rfl (reads_box tcell3 hb12_j4 nn 0 _ rfl) ?_
   refine x_u 2 [(24, .bool (e10_j4_0 != e12_j4_0)), (25, .bool (e10_j4_0 != e12_j4_0))] ?_
   refine x_if 25 (e10_j4_0 != e12_j4_0) rfl h (fun h => ?_) (fun h => ?_)
   · refine x_u 7 [(26, undef), (27, undef), (28, undef), (29, undef), (30, undef), (31, .bool true), (19, .bool true)] ?_
     refine x_end rfl ?_
     have hpk : MS wj4 [M] := hms.pick [some 2] _ rfl
     have hsu : ∀ x ∈ fl [M], x ∈ fl [[b10_j4], [b12_j4], M] := pick_sub [some 2] _ rfl
     replace hms := hpk
     replace hfr : FR w.heap.size [] := hfr.pick [] _ rfl
     clear hpk hsu
     exact k_then ⟨true, ⟨rfl, rfl, rfl, trivial⟩, h, hev, hms, hfr⟩
   refine x_fieldAddr (xv := Vp b10_j4 0) (Vp b10_j4 1) rfl rfl rfl (reads_field tfld79_1 _ _) ?_
   refine x_load (xv := Vp b10_j4 1) (Vi e10_j4_1) rfl rfl rfl (reads_box tcell3 hb10_j4 nn 1 _ rfl) ?_
   refine x_fieldAddr (xv := Vp b12_j4 0) (Vp b12_j4 1) rfl rfl rfl (reads_field tfld79_1 _ _) ?_
   refine x_load (xv := Vp b12_j4 1) (Vi e12_j4_1) rfl rfl rfl (reads_box tcell3 hb12_j4 nn 1 _ rfl) ?_
   refine x_u 3 [(30, .bool (decide (e10_j4_1 ≥ e12_j4_1))), (31, .bool (decide (e10_j4_1 ≥ e12_j4_1))), (19, .bool (decide (e10_j4_1 ≥ e12_j4_1)))] ?_
   refine x_end rfl ?_
   have hpk : MS wj4 [M] := hms.pick [some 2] _ rfl
   have hsu : ∀ x ∈ fl [M], x ∈ fl [[b10_j4], [b12_j4], M] := pick_sub [some 2] _ rfl
   replace hms := hpk
   replace hfr : FR w.heap.size [] := hfr.pick [] _ rfl
   clear hpk hsu
   exact k_then ⟨decide (e10_j4_1 ≥ e12_j4_1), ⟨rfl, rfl, rfl, trivial⟩, h, hev, hms, hfr⟩
 rintro t19__s19_j9 J wj9 ⟨h, hev, hms, hfr⟩
 refine c_if t19__s19_j9 rfl h (fun h => ?_) (fun h => ?_)
 · refine c_sp ?_
   refine x_u 1 [(6, Vi 0)] ?_
   refine x_ek ?_
   refine c_norm [(6, Vi 0)] ⟨rfl, trivial⟩ (fun J => ?_)
   refine c_ret ?_
   refine k_block_ret ?_
   refine k_then_ret ?_
   refine r_ret (r_vals [Vi 0] ⟨rfl, trivial⟩ ?_)
   have hx := some_inj h
   subst hx
   have hmr : MS wj9 [M] := hms.pick [some 0] _ rfl
   have hsu : ∀ x ∈ fl [M], x ∈ fl [M] := pick_sub [some 0] _ rfl
   exact ⟨rfl, hev⟩
 refine c_sp ?_
 refine x_u 4 [(33, Vi p2), (34, Vi p1), (35, .bool (decide (p2 < p1))), (32, .bool (decide (p2 < p1)))] ?_
 refine x_ek ?_
 refine c_norm [(32, .bool (decide (p2 < p1)))] ⟨rfl, trivial⟩ (fun J => ?_)
 refine c_if (decide (p2 < p1)) rfl h (fun h => ?_) (fun h => ?_)
 · refine c_sp ?_
   refine x_u 1 [(6, Vi 2)] ?_
   refine x_ek ?_
   refine c_ret ?_
   refine k_block_ret ?_
   refine k_then_ret ?_
   refine r_ret (r_vals [Vi 2] ⟨rfl, trivial⟩ ?_)
   have hx := some_inj h
   subst hx
   have hmr : MS wj9 [M] := hms.pick [some 0] _ rfl
   have hsu : ∀ x ∈ fl [M], x ∈ fl [M] := pick_sub [some 0] _ rfl
   exact ⟨rfl, hev⟩
 refine c_skip ?_
 refine k_block ?_
 refine k_then ?_
 refine c_sp ?_
 refine x_u 1 [(6, Vi 1)] ?_
 refine x_ek ?_
 refine c_ret ?_
 refine r_ret (r_vals [Vi 1] ⟨rfl, trivial⟩ ?_)
 have hx := some_inj h
 subst hx
 have hmr : MS wj9 [M] := hms.pick [some 0] _ rfl
 have hsu : ∀ x ∈ fl [M], x ∈ fl [M] := pick_sub [some 0] _ rfl
 exact ⟨rfl, hev⟩
def r11_Strict (p0_0 : List (Int × Int × Int × Int)) (p0_1 : Int) (p1 : Int) (p2 : Int) : Option Int :=
((r11_Kind p0_0 p0_1 p1 p2).bind fun x4 =>
some (IntKind.i64.wrap (Int.tdiv x4 2)))

theorem r11_Strict_w (a_p0_0 : Option Addr) (c_p0_0 : Nat) (p0_0 : List (Int × Int × Int × Int)) (p0_1 : Int) (p1 : Int) (p2 : Int) (r : Int) (w : World) (M : List Nat) (hms : MS w [M]) (hs_p0_0 : SlR (eIt4) w (fl [M]) a_p0_0 c_p0_0 p0_0) (h : r11_Strict p0_0 p0_1 p1 p2 = some r) : CallVC Try.prog 19 [.agg #[Vl a_p0_0 p0_0 c_p0_0, Vi p0_1], Vi p1, Vi p2] w fun v w' => v = Vi r ∧ Ev [] w w' := by
 refine calls_vc hmx Try.func19 (by kernel_rfl) rfl (rs := [.tmp 6]) rfl (by kernel_rfl) (args := [.agg #[Vl a_p0_0 p0_0 c_p0_0, Vi p0_1], Vi p1, Vi p2]) rfl ?_
 have hev : Ev [] w w := Ev.refl _ _
 have hfr : FR w.heap.size [] := FR.nil _
 refine c_sp ?_
 refine x_box (xv := .agg #[Vl a_p0_0 p0_0 c_p0_0, Vi p0_1]) rfl rfl rfl (fun b2 w2 hq2 hb2 he2 hz2 => ?_)
 replace hb2 : w2.heap[b2]? = some (.cells #[Vl a_p0_0 p0_0 c_p0_0, Vi p0_1] 25 (0, 0)) := hb2
 refine inl1 ?_
 have hst := Stp.box (ls := [M]) he2 hq2
 replace hs_p0_0 := hs_p0_0.step hst
 replace hms := hms.box he2 hq2 hb2
 replace hfr := hfr.box hev.size hq2
 replace hev := hev.ext he2
 refine x_u 1 [(6, Vi 0)] ?_
 refine x_ek ?_
 refine c_sp ?_
 refine x_load (xv := Vp b2 0) (.agg #[Vl a_p0_0 p0_0 c_p0_0, Vi p0_1]) rfl rfl rfl (reads_boxagg 0 [Vl a_p0_0 p0_0 c_p0_0, Vi p0_1] tagg25 hb2 nn rfl) ?_
 refine x_u 2 [(8, Vi p1), (9, Vi p2)] ?_
 obtain ⟨x4, hx, h⟩ := bind_some h
 have hpk : MS w2 ([] ++ [[b2], M]) := hms.pick [some 0, some 1] _ rfl
 have hsb0 : ∀ x ∈ fl ([] ++ [[b2], M]), x ∈ fl [[b2], M] := pick_sub [some 0, some 1] _ rfl
 have hsb : ∀ x ∈ fl ([] ++ [(fl [[b2], M])]), x ∈ fl [[b2], M] := fun x hx => hsb0 x (fl_unfold x hx)
 have hcall := r11_Kind_w a_p0_0 c_p0_0 p0_0 p0_1 p1 p2 _ w2 (fl [[b2], M]) (MS.fold (P := []) hpk) (hs_p0_0.sub hsb) hx
 refine x_call 18 #[] #[] [.agg #[Vl a_p0_0 p0_0 c_p0_0, Vi p0_1], Vi p1, Vi p2] _ rfl rfl rfl rfl hcall ?_
 rintro v w5 ⟨rfl, he5⟩
 clear hcall hx
 refine inl1 ?_
 have hst := Stp.ext (ls := [[b2], M]) he5
 replace hs_p0_0 := hs_p0_0.step hst
 replace hb2 := he5.box hb2 nn
 replace hms := hms.ev he5
 replace hev := hev.ext he5
 clear hpk hsb hsb0
 refine x_u 2 [(11, Vi (IntKind.i64.wrap (Int.tdiv x4 2))), (6, Vi (IntKind.i64.wrap (Int.tdiv x4 2)))] ?_
 refine x_ek ?_
 refine c_ret ?_
 refine r_ret (r_vals [Vi (IntKind.i64.wrap (Int.tdiv x4 2))] ⟨rfl, trivial⟩ ?_)
 have hx := some_inj h
 subst hx
 have hmr : MS w5 [M] := hms.pick [some 1] _ rfl
 have hsu : ∀ x ∈ fl [M], x ∈ fl [[b2], M] := pick_sub [some 1] _ rfl
 exact ⟨rfl, hev⟩
def r11_Base_L5 (p0_0 : List (Int × Int × Int × Int)) (p0_1 : Int) (p1 : List Int) (p2 : Int) (s : Int × Int) : Option (Step (Int × Int) Int) :=
match s with
| (n_s7_l5, x_s8_l5) =>
(if (decide (x_s8_l5 < ((p0_0).length : Int))) = true then
((r11_Kind p0_0 p0_1 x_s8_l5 p2).bind fun x7 =>
(if (decide (x7 > 0)) = true then
((idx p1 x_s8_l5).bind fun x9 =>
((r11_Strict p0_0 p0_1 x_s8_l5 p2).bind fun x11 =>
some (.next (if (IntKind.i64.wrap (x9 + x11)) > n_s7_l5 then (IntKind.i64.wrap (x9 + x11)) else n_s7_l5, IntKind.i64.wrap (x_s8_l5 + 1)))))
else
some (.next (n_s7_l5, IntKind.i64.wrap (x_s8_l5 + 1)))))
else
some (.done n_s7_l5))

def r11_Base (p0_0 : List (Int × Int × Int × Int)) (p0_1 : Int) (p1 : List Int) (p2 : Int) : Option Int :=
((loop (r11_Base_L5 p0_0 p0_1 p1 p2) (0, 0)).bind fun d => match d with
| n_s7_x5 => some n_s7_x5)

theorem r11_Base_w (a_p0_0 : Option Addr) (c_p0_0 : Nat) (p0_0 : List (Int × Int × Int × Int)) (p0_1 : Int) (a_p1 : Option Addr) (c_p1 : Nat) (p1 : List Int) (p2 : Int) (r : Int) (w : World) (M : List Nat) (hms : MS w [M]) (hs_p0_0 : SlR (eIt4) w (fl [M]) a_p0_0 c_p0_0 p0_0) (hs_p1 : SlR (eInt .i64) w (fl [M]) a_p1 c_p1 p1) (h : r11_Base p0_0 p0_1 p1 p2 = some r) : CallVC Try.prog 59 [.agg #[Vl a_p0_0 p0_0 c_p0_0, Vi p0_1], Vl a_p1 p1 c_p1, Vi p2] w fun v w' => v = Vi r ∧ Ev [] w w' := by
 refine calls_vc hmx Try.func59 (by kernel_rfl) rfl (rs := [.tmp 6]) rfl (by kernel_rfl) (args := [.agg #[Vl a_p0_0 p0_0 c_p0_0, Vi p0_1], Vl a_p1 p1 c_p1, Vi p2]) rfl ?_
 have hev : Ev [] w w := Ev.refl _ _
 have hfr : FR w.heap.size [] := FR.nil _
 refine c_sp ?_
 refine x_box (xv := .agg #[Vl a_p0_0 p0_0 c_p0_0, Vi p0_1]) rfl rfl rfl (fun b3 w3 hq3 hb3 he3 hz3 => ?_)
 replace hb3 : w3.heap[b3]? = some (.cells #[Vl a_p0_0 p0_0 c_p0_0, Vi p0_1] 25 (0, 0)) := hb3
 refine inl1 ?_
 have hst := Stp.box (ls := [M]) he3 hq3
 replace hs_p0_0 := hs_p0_0.step hst
 replace hs_p1 := hs_p1.step hst
 replace hms := hms.box he3 hq3 hb3
 replace hfr := hfr.box hev.size hq3
 replace hev := hev.ext he3
 refine x_u 1 [(6, Vi 0)] ?_
 refine x_ek ?_
 refine c_sp ?_
 refine x_u 1 [(7, Vi 0)] ?_
 refine x_ek ?_
 refine c_seq ?_
 refine c_sp ?_
 refine x_u 1 [(8, Vi 0)] ?_
 refine x_ek ?_
 refine c_block ?_
 obtain ⟨d5, hd5, h5⟩ := bind_some h
 obtain ⟨m5, hd5⟩ := loop_some hd5
 refine c_loop (loop_rule hmx (σ := Nat × Int × Int) (fun s => match s with | (_, n_s7_l5, x_s8_l5) => [(1, Vl a_p1 p1 c_p1), (2, Vi p2), (3, Vp b3 0), (7, Vi n_s7_l5), (8, Vi x_s8_l5)]) (fun s w' => match s with | (m, n_s7_l5, x_s8_l5) => loopN (r11_Base_L5 p0_0 p0_1 p1 p2) m (n_s7_l5, x_s8_l5) = some d5 ∧ Ev [] w w' ∧ MS w' [[b3], M] ∧ FR w.heap.size [[b3]] ∧ SlR (eInt .i64) w' (fl [[b3], M]) a_p1 c_p1 p1 ∧ SlR (eIt4) w' (fl [[b3], M]) a_p0_0 c_p0_0 p0_0 ∧ w'.heap[b3]? = some (.cells #[Vl a_p0_0 p0_0 c_p0_0, Vi p0_1] 25 (0, 0))) (fun s => s.1) (m5, 0, 0) ⟨rfl, rfl, rfl, rfl, rfl, trivial⟩ ⟨hd5, hev, hms, hfr, hs_p1, hs_p0_0, hb3⟩ ?_)
 rintro ⟨m5, n_s7_l5, x_s8_l5⟩ J wl5 ⟨hn5, hev, hms, hfr, hs_p1, hs_p0_0, hb3⟩
 rcases m5 with _ | m5
 · exact (loopN_zero hn5).elim
 obtain ⟨t5, h, hn5⟩ := bind_some hn5
 refine c_seq ?_
 refine c_sp ?_
 refine x_u 1 [(9, Vi x_s8_l5)] ?_
 refine x_fieldAddr (xv := Vp b3 0) (Vp b3 0) rfl rfl rfl (reads_field tfld25_0 _ _) ?_
 refine x_load (xv := Vp b3 0) (Vl a_p0_0 p0_0 c_p0_0) rfl rfl rfl (reads_box tcell23 hb3 nn 0 _ rfl) ?_
 refine x_len (vs := [Vl a_p0_0 p0_0 c_p0_0]) (Vi ((p0_0).length : Int)) rfl rfl rfl (reads_len tsl23 _ _ _ _ _) ?_
 refine x_u 1 [(13, .bool (decide (x_s8_l5 < ((p0_0).length : Int))))] ?_
 refine x_ek ?_
 refine c_norm [(1, Vl a_p1 p1 c_p1), (2, Vi p2), (3, Vp b3 0), (7, Vi n_s7_l5), (8, Vi x_s8_l5), (13, .bool (decide (x_s8_l5 < ((p0_0).length : Int))))] ⟨rfl, rfl, rfl, rfl, rfl, rfl, trivial⟩ (fun J => ?_)
 refine c_if (decide (x_s8_l5 < ((p0_0).length : Int))) rfl h (fun h => ?_) (fun h => ?_)
 · refine c_skip ?_
   refine k_then ?_
   refine c_seq ?_
   refine c_block ?_
   refine c_sp ?_
   refine x_load (xv := Vp b3 0) (.agg #[Vl a_p0_0 p0_0 c_p0_0, Vi p0_1]) rfl rfl rfl (reads_boxagg 0 [Vl a_p0_0 p0_0 c_p0_0, Vi p0_1] tagg25 hb3 nn rfl) ?_
   refine x_u 2 [(17, Vi x_s8_l5), (18, Vi p2)] ?_
   obtain ⟨x7, hx, h⟩ := bind_some h
   have hpk : MS wl5 ([] ++ [[b3], M]) := hms.pick [some 0, some 1] _ rfl
   have hsb0 : ∀ x ∈ fl ([] ++ [[b3], M]), x ∈ fl [[b3], M] := pick_sub [some 0, some 1] _ rfl
   have hsb : ∀ x ∈ fl ([] ++ [(fl [[b3], M])]), x ∈ fl [[b3], M] := fun x hx => hsb0 x (fl_unfold x hx)
   have hcall := r11_Kind_w a_p0_0 c_p0_0 p0_0 p0_1 x_s8_l5 p2 _ wl5 (fl [[b3], M]) (MS.fold (P := []) hpk) (hs_p0_0.sub hsb) hx
   refine x_call 18 #[] #[] [.agg #[Vl a_p0_0 p0_0 c_p0_0, Vi p0_1], Vi x_s8_l5, Vi p2] _ rfl rfl rfl rfl hcall ?_
   rintro v w8 ⟨rfl, he8⟩
   clear hcall hx
   refine inl1 ?_
   have hst := Stp.ext (ls := [[b3], M]) he8
   replace hs_p1 := hs_p1.step hst
   replace hb3 := he8.box hb3 nn
   replace hs_p0_0 := hs_p0_0.step hst
   replace hms := hms.ev he8
   replace hev := hev.ext he8
   clear hpk hsb hsb0
   refine x_u 1 [(20, .bool (decide (x7 > 0)))] ?_
   refine x_ek ?_
   refine c_if (decide (x7 > 0)) rfl h (fun h => ?_) (fun h => ?_)
   · refine c_drawn [] [(0, false), (1, false), (2, false), (3, false), (4, false), (5, false), (6, false), (7, false), (8, false), (9, false), (10, false), (11, false)] _ (by kernel_rfl) rfl ?_
     have hst := Stp.ext (ls := [[b3], M]) (Ev.drew w8)
     replace hs_p1 := hs_p1.step hst
     replace hb3 := (Ev.drew w8).box hb3 nn
     replace hs_p0_0 := hs_p0_0.step hst
     replace hms := hms.ev (Ev.drew w8)
     replace hev := hev.ext (Ev.drew w8)
     refine x_u 3 [(21, Vi n_s7_l5), (22, Vl a_p1 p1 c_p1), (23, Vi x_s8_l5)] ?_
     obtain ⟨x9, hx9, h⟩ := bind_some h
     obtain ⟨ad9, cs9, hr9, hc9, hR⟩ := reads_index (Mo := []) tsl22 hs_p1 hx9
     obtain rfl := hR
     refine x_indexAddr (xv := Vl a_p1 p1 c_p1) (yv := Vi x_s8_l5) (.pointer (some ad9)) rfl rfl rfl rfl hr9 ?_
     refine x_load (xv := .pointer (some ad9)) (Vi x9) rfl rfl rfl (reads_cell0 tcell3 hc9 (fun _ h => by cases h)) ?_
     refine x_load (xv := Vp b3 0) (.agg #[Vl a_p0_0 p0_0 c_p0_0, Vi p0_1]) rfl rfl rfl (reads_boxagg 0 [Vl a_p0_0 p0_0 c_p0_0, Vi p0_1] tagg25 hb3 nn rfl) ?_
     refine x_u 2 [(27, Vi x_s8_l5), (28, Vi p2)] ?_
     obtain ⟨x11, hx, h⟩ := bind_some h
     have hpk : MS (w8).drew ([] ++ [[b3], M]) := hms.pick [some 0, some 1] _ rfl
     have hsb0 : ∀ x ∈ fl ([] ++ [[b3], M]), x ∈ fl [[b3], M] := pick_sub [some 0, some 1] _ rfl
     have hsb : ∀ x ∈ fl ([] ++ [(fl [[b3], M])]), x ∈ fl [[b3], M] := fun x hx => hsb0 x (fl_unfold x hx)
     have hcall := r11_Strict_w a_p0_0 c_p0_0 p0_0 p0_1 x_s8_l5 p2 _ (w8).drew (fl [[b3], M]) (MS.fold (P := []) hpk) (hs_p0_0.sub hsb) hx
     refine x_call 19 #[] #[] [.agg #[Vl a_p0_0 p0_0 c_p0_0, Vi p0_1], Vi x_s8_l5, Vi p2] _ rfl rfl rfl rfl hcall ?_
     rintro v w12 ⟨rfl, he12⟩
     clear hcall hx
     refine ⟨.inr he12, ?_⟩
     have hst := Stp.ext (ls := [[b3], M]) he12
     replace hs_p1 := hs_p1.step hst
     replace hb3 := he12.box hb3 nn
     replace hs_p0_0 := hs_p0_0.step hst
     replace hc9 := hc9.step hst
     replace hms := hms.ev he12
     replace hev := hev.ext he12
     clear hpk hsb hsb0
     refine x_u 1 [(30, Vi (IntKind.i64.wrap (x9 + x11)))] ?_
     refine x_max (vs := [Vi n_s7_l5, Vi (IntKind.i64.wrap (x9 + x11))]) (Vi (if (IntKind.i64.wrap (x9 + x11)) > n_s7_l5 then (IntKind.i64.wrap (x9 + x11)) else n_s7_l5)) rfl rfl rfl (fun _ _ => rfl) ?_
     refine x_u 1 [(7, Vi (if (IntKind.i64.wrap (x9 + x11)) > n_s7_l5 then (IntKind.i64.wrap (x9 + x11)) else n_s7_l5))] ?_
     refine x_end rfl ?_
     refine k_block ?_
     refine k_then ?_
     refine c_norm [(1, Vl a_p1 p1 c_p1), (2, Vi p2), (3, Vp b3 0), (7, Vi (if (IntKind.i64.wrap (x9 + x11)) > n_s7_l5 then (IntKind.i64.wrap (x9 + x11)) else n_s7_l5)), (8, Vi x_s8_l5)] ⟨rfl, rfl, rfl, rfl, rfl, trivial⟩ (fun J => ?_)
     refine c_plain ?_
     refine x_u 3 [(14, Vi x_s8_l5), (15, Vi (IntKind.i64.wrap (x_s8_l5 + 1))), (8, Vi (IntKind.i64.wrap (x_s8_l5 + 1)))] ?_
     refine x_end rfl ?_
     have hx := some_inj h
     subst hx
     exact k_then ⟨(m5, if (IntKind.i64.wrap (x9 + x11)) > n_s7_l5 then (IntKind.i64.wrap (x9 + x11)) else n_s7_l5, IntKind.i64.wrap (x_s8_l5 + 1)), ⟨rfl, rfl, rfl, rfl, rfl, trivial⟩, ⟨hn5, hev, hms, hfr, hs_p1, hs_p0_0, hb3⟩, Nat.lt_succ_self _⟩
   refine c_skip ?_
   refine k_block ?_
   refine k_then ?_
   refine c_plain ?_
   refine x_u 3 [(14, Vi x_s8_l5), (15, Vi (IntKind.i64.wrap (x_s8_l5 + 1))), (8, Vi (IntKind.i64.wrap (x_s8_l5 + 1)))] ?_
   refine x_end rfl ?_
   have hx := some_inj h
   subst hx
   exact k_then ⟨(m5, n_s7_l5, IntKind.i64.wrap (x_s8_l5 + 1)), ⟨rfl, rfl, rfl, rfl, rfl, trivial⟩, ⟨hn5, hev, hms, hfr, hs_p1, hs_p0_0, hb3⟩, Nat.lt_succ_self _⟩
 refine c_exit ?_
 refine k_then_exit ?_
 have hx := some_inj h
 subst hx
 have hy := some_inj hn5
 subst hy
 replace h := h5
 refine k_then_exit ?_
 refine k_block_in ?_
 refine k_then ?_
 refine c_norm [(7, Vi n_s7_l5)] ⟨rfl, trivial⟩ (fun J => ?_)
 refine c_sp ?_
 refine x_u 2 [(32, Vi n_s7_l5), (6, Vi n_s7_l5)] ?_
 refine x_ek ?_
 refine c_ret ?_
 refine r_ret (r_vals [Vi n_s7_l5] ⟨rfl, trivial⟩ ?_)
 have hx := some_inj h
 subst hx
 have hmr : MS wl5 [M] := hms.pick [some 1] _ rfl
 have hsu : ∀ x ∈ fl [M], x ∈ fl [[b3], M] := pick_sub [some 1] _ rfl
 exact ⟨rfl, hev⟩
def r11_Back_L20 (p0_0 : List (Int × Int × Int × Int)) (p0_1 : Int) (p1 : List Int) (y_s5_l17 : Int) (base_s8_l17 : Int) (s : Int) : Option (Step Int Int) :=
match s with
| x_s9_l20 =>
((r11_Kind p0_0 p0_1 x_s9_l20 y_s5_l17).bind fun x21 =>
(if (x21 == 0) = true then
some (.next (IntKind.i64.wrap (x_s9_l20 + 1)))
else
((idx p1 x_s9_l20).bind fun x23 =>
((r11_Strict p0_0 p0_1 x_s9_l20 y_s5_l17).bind fun x25 =>
(if ((IntKind.i64.wrap (x23 + x25)) != base_s8_l17) = true then
some (.next (IntKind.i64.wrap (x_s9_l20 + 1)))
else
some (.done x_s9_l20))))))

def r11_Back_L17 (p0_0 : List (Int × Int × Int × Int)) (p0_1 : Int) (p1 : List Int) (s : Int × (List Int) × Int) : Option (Step (Int × (List Int) × Int) (List Int)) :=
match s with
| (y_s5_l17, d14_l17, base_s8_l17) =>
(if (decide (base_s8_l17 > 0)) = true then
((loop (r11_Back_L20 p0_0 p0_1 p1 y_s5_l17 base_s8_l17) 0).bind fun d => match d with
| x_s9_x20 => (if ([x_s9_x20] : List Int).length + d14_l17.length ≤ 4294967296 then
((r11_Base p0_0 p0_1 p1 x_s9_x20).bind fun x30 =>
some (.next (x_s9_x20, (([x_s9_x20] : List Int) ++ d14_l17), x30)))
else none))
else
some (.done d14_l17))

def r11_Back_L7 (p1 : List Int) (s : Int × Int) : Option (Step (Int × Int) Int) :=
match s with
| (y_s5_l7, x_s6_l7) =>
(if (decide (x_s6_l7 < ((p1).length : Int))) = true then
((idx p1 x_s6_l7).bind fun x9 =>
((idx p1 y_s5_l7).bind fun x11 =>
(if (decide (x9 > x11)) = true then
some (.next (x_s6_l7, IntKind.i64.wrap (x_s6_l7 + 1)))
else
some (.next (y_s5_l7, IntKind.i64.wrap (x_s6_l7 + 1))))))
else
some (.done y_s5_l7))

def r11_Back (p0_0 : List (Int × Int × Int × Int)) (p0_1 : Int) (p1 : List Int) : Option (List Int) :=
(if (((p1).length : Int) == 0) = true then
some ([])
else
((loop (r11_Back_L7 p1) (0, 0)).bind fun d => match d with
| y_s5_x7 => ((r11_Base p0_0 p0_1 p1 y_s5_x7).bind fun x15 =>
((loop (r11_Back_L17 p0_0 p0_1 p1) (y_s5_x7, ([y_s5_x7] : List Int), x15)).bind fun d => match d with
| d14_x17 => some d14_x17))))

theorem r11_Back_w (a_p0_0 : Option Addr) (c_p0_0 : Nat) (p0_0 : List (Int × Int × Int × Int)) (p0_1 : Int) (a_p1 : Option Addr) (c_p1 : Nat) (p1 : List Int) (r : (List Int)) (w : World) (M : List Nat) (hms : MS w [M]) (hs_p0_0 : SlR (eIt4) w (fl [M]) a_p0_0 c_p0_0 p0_0) (hs_p1 : SlR (eInt .i64) w (fl [M]) a_p1 c_p1 p1) (h : r11_Back p0_0 p0_1 p1 = some r) : CallVC Try.prog 60 [.agg #[Vl a_p0_0 p0_0 c_p0_0, Vi p0_1], Vl a_p1 p1 c_p1] w fun v w' => ∃ (a0' : Option Addr), ∃ (c0' : Nat), v = Vl a0' r c0' ∧ Ev [] w w' ∧ MS w' [blk a0', M] ∧ FR w.heap.size [blk a0'] ∧ OwnS (eInt .i64) 3 w' (fl [blk a0', M]) a0' c0' r := by
 refine calls_vc hmx Try.func60 (by kernel_rfl) rfl (rs := [.tmp 4]) rfl (by kernel_rfl) (args := [.agg #[Vl a_p0_0 p0_0 c_p0_0, Vi p0_1], Vl a_p1 p1 c_p1]) rfl ?_
 have hev : Ev [] w w := Ev.refl _ _
 have hfr : FR w.heap.size [] := FR.nil _
 refine c_sp ?_
 refine x_box (xv := .agg #[Vl a_p0_0 p0_0 c_p0_0, Vi p0_1]) rfl rfl rfl (fun b3 w3 hq3 hb3 he3 hz3 => ?_)
 replace hb3 : w3.heap[b3]? = some (.cells #[Vl a_p0_0 p0_0 c_p0_0, Vi p0_1] 25 (0, 0)) := hb3
 refine inl1 ?_
 have hst := Stp.box (ls := [M]) he3 hq3
 replace hs_p0_0 := hs_p0_0.step hst
 replace hs_p1 := hs_p1.step hst
 replace hms := hms.box he3 hq3 hb3
 replace hfr := hfr.box hev.size hq3
 replace hev := hev.ext he3
 refine x_u 1 [(4, .slice none 0 0)] ?_
 refine x_ek ?_
 refine c_seq ?_
 refine c_sp ?_
 refine x_u 1 [(10, Vl a_p1 p1 c_p1)] ?_
 refine x_len (vs := [Vl a_p1 p1 c_p1]) (Vi ((p1).length : Int)) rfl rfl rfl (reads_len tsl22 _ _ _ _ _) ?_
 refine x_u 1 [(12, .bool (((p1).length : Int) == 0))] ?_
 refine x_ek ?_
 refine c_if (((p1).length : Int) == 0) rfl h (fun h => ?_) (fun h => ?_)
 · refine c_sp ?_
   refine x_u 1 [(4, .slice none 0 0)] ?_
   refine x_ek ?_
   refine c_ret ?_
   refine k_then_ret ?_
   refine r_ret (r_vals [.slice none 0 0] ⟨rfl, trivial⟩ ?_)
   have hx := some_inj h
   subst hx
   have hmr : MS w3 [blk none, M] := hms.pick [none, some 1] _ rfl
   have hsu : ∀ x ∈ fl [blk none, M], x ∈ fl [[b3], M] := pick_sub [none, some 1] _ rfl
   have hfe : FR w.heap.size [blk none] := hfr.pick [none] _ rfl
   exact ⟨none, 0, rfl, hev, hmr, hfe, OwnS.nil _ _ _ _⟩
 refine c_skip ?_
 refine k_then ?_
 refine c_sp ?_
 refine x_u 1 [(5, Vi 0)] ?_
 refine x_ek ?_
 refine c_seq ?_
 refine c_sp ?_
 refine x_u 1 [(6, Vi 0)] ?_
 refine x_ek ?_
 refine c_block ?_
 obtain ⟨d7, hd7, h7⟩ := bind_some h
 obtain ⟨m7, hd7⟩ := loop_some hd7
 refine c_loop (loop_rule hmx (σ := Nat × Int × Int) (fun s => match s with | (_, y_s5_l7, x_s6_l7) => [(1, Vl a_p1 p1 c_p1), (2, Vp b3 0), (5, Vi y_s5_l7), (6, Vi x_s6_l7)]) (fun s w' => match s with | (m, y_s5_l7, x_s6_l7) => loopN (r11_Back_L7 p1) m (y_s5_l7, x_s6_l7) = some d7 ∧ Ev [] w w' ∧ MS w' [[b3], M] ∧ FR w.heap.size [[b3]] ∧ SlR (eInt .i64) w' (fl [[b3], M]) a_p1 c_p1 p1 ∧ SlR (eIt4) w' (fl [[b3], M]) a_p0_0 c_p0_0 p0_0 ∧ w'.heap[b3]? = some (.cells #[Vl a_p0_0 p0_0 c_p0_0, Vi p0_1] 25 (0, 0))) (fun s => s.1) (m7, 0, 0) ⟨rfl, rfl, rfl, rfl, trivial⟩ ⟨hd7, hev, hms, hfr, hs_p1, hs_p0_0, hb3⟩ ?_)
 rintro ⟨m7, y_s5_l7, x_s6_l7⟩ J wl7 ⟨hn7, hev, hms, hfr, hs_p1, hs_p0_0, hb3⟩
 rcases m7 with _ | m7
 · exact (loopN_zero hn7).elim
 obtain ⟨t7, h, hn7⟩ := bind_some hn7
 refine c_seq ?_
 refine c_sp ?_
 refine x_u 2 [(13, Vi x_s6_l7), (14, Vl a_p1 p1 c_p1)] ?_
 refine x_len (vs := [Vl a_p1 p1 c_p1]) (Vi ((p1).length : Int)) rfl rfl rfl (reads_len tsl22 _ _ _ _ _) ?_
 refine x_u 1 [(16, .bool (decide (x_s6_l7 < ((p1).length : Int))))] ?_
 refine x_ek ?_
 refine c_norm [(1, Vl a_p1 p1 c_p1), (2, Vp b3 0), (5, Vi y_s5_l7), (6, Vi x_s6_l7), (16, .bool (decide (x_s6_l7 < ((p1).length : Int))))] ⟨rfl, rfl, rfl, rfl, rfl, trivial⟩ (fun J => ?_)
 refine c_if (decide (x_s6_l7 < ((p1).length : Int))) rfl h (fun h => ?_) (fun h => ?_)
 · refine c_skip ?_
   refine k_then ?_
   refine c_seq ?_
   refine c_block ?_
   refine c_seq ?_
   refine c_drawn [] [(0, false), (1, false), (2, false), (3, false), (4, false), (5, false), (6, false), (7, false), (8, false)] _ (by kernel_rfl) rfl ?_
   have hst := Stp.ext (ls := [[b3], M]) (Ev.drew wl7)
   replace hs_p1 := hs_p1.step hst
   replace hb3 := (Ev.drew wl7).box hb3 nn
   replace hs_p0_0 := hs_p0_0.step hst
   replace hms := hms.ev (Ev.drew wl7)
   replace hev := hev.ext (Ev.drew wl7)
   refine x_u 2 [(19, Vl a_p1 p1 c_p1), (20, Vi x_s6_l7)] ?_
   obtain ⟨x9, hx9, h⟩ := bind_some h
   obtain ⟨ad9, cs9, hr9, hc9, hR⟩ := reads_index (Mo := []) tsl22 hs_p1 hx9
   obtain rfl := hR
   refine x_indexAddr (xv := Vl a_p1 p1 c_p1) (yv := Vi x_s6_l7) (.pointer (some ad9)) rfl rfl rfl rfl hr9 ?_
   refine x_load (xv := .pointer (some ad9)) (Vi x9) rfl rfl rfl (reads_cell0 tcell3 hc9 (fun _ h => by cases h)) ?_
   refine x_u 2 [(23, Vl a_p1 p1 c_p1), (24, Vi y_s5_l7)] ?_
   obtain ⟨x11, hx11, h⟩ := bind_some h
   obtain ⟨ad11, cs11, hr11, hc11, hR⟩ := reads_index (Mo := []) tsl22 hs_p1 hx11
   obtain rfl := hR
   refine x_indexAddr (xv := Vl a_p1 p1 c_p1) (yv := Vi y_s5_l7) (.pointer (some ad11)) rfl rfl rfl rfl hr11 ?_
   refine x_load (xv := .pointer (some ad11)) (Vi x11) rfl rfl rfl (reads_cell0 tcell3 hc11 (fun _ h => by cases h)) ?_
   refine x_u 1 [(27, .bool (decide (x9 > x11)))] ?_
   refine x_ek ?_
   refine c_if (decide (x9 > x11)) rfl h (fun h => ?_) (fun h => ?_)
   · refine c_plain ?_
     refine x_u 2 [(28, Vi x_s6_l7), (5, Vi x_s6_l7)] ?_
     refine x_end rfl ?_
     refine k_block ?_
     refine k_then ?_
     refine c_plain ?_
     refine x_u 3 [(17, Vi x_s6_l7), (18, Vi (IntKind.i64.wrap (x_s6_l7 + 1))), (6, Vi (IntKind.i64.wrap (x_s6_l7 + 1)))] ?_
     refine x_end rfl ?_
     have hx := some_inj h
     subst hx
     exact k_then ⟨(m7, x_s6_l7, IntKind.i64.wrap (x_s6_l7 + 1)), ⟨rfl, rfl, rfl, rfl, trivial⟩, ⟨hn7, hev, hms, hfr, hs_p1, hs_p0_0, hb3⟩, Nat.lt_succ_self _⟩
   refine c_skip ?_
   refine k_block ?_
   refine k_then ?_
   refine c_plain ?_
   refine x_u 3 [(17, Vi x_s6_l7), (18, Vi (IntKind.i64.wrap (x_s6_l7 + 1))), (6, Vi (IntKind.i64.wrap (x_s6_l7 + 1)))] ?_
   refine x_end rfl ?_
   have hx := some_inj h
   subst hx
   exact k_then ⟨(m7, y_s5_l7, IntKind.i64.wrap (x_s6_l7 + 1)), ⟨rfl, rfl, rfl, rfl, trivial⟩, ⟨hn7, hev, hms, hfr, hs_p1, hs_p0_0, hb3⟩, Nat.lt_succ_self _⟩
 refine c_exit ?_
 refine k_then_exit ?_
 have hx := some_inj h
 subst hx
 have hy := some_inj hn7
 subst hy
 replace h := h7
 refine k_then_exit ?_
 refine k_block_in ?_
 refine k_then ?_
 refine c_norm [(1, Vl a_p1 p1 c_p1), (2, Vp b3 0), (5, Vi y_s5_l7)] ⟨rfl, rfl, rfl, trivial⟩ (fun J => ?_)
 refine c_sp ?_
 refine x_u 1 [(29, Vi y_s5_l7)] ?_
 refine x_buildSlice (vs := [(0, Vi y_s5_l7)]) #[Vi y_s5_l7] 3 rfl rfl rfl (by kernel_rfl) (fun b13 w13 hq13 hb13 he13 hz13 => ?_)
 refine inl1 ?_
 obtain ⟨a13, ea13⟩ : ∃ a, a = some (⟨b13, 0, none⟩ : Addr) := ⟨_, rfl⟩
 have hw13 : ∀ M, OwnS (eInt .i64) 3 w13 M a13 1 ([y_s5_l7] : List Int) := fun M => ea13 ▸ own_of_box hb13 (by decide) rfl rfl (cells_at (cs := [Vi y_s5_l7]) (CellsOf.cons (c := [Vi y_s5_l7]) rfl CellsOf.nil))
 have hn13 : ∀ b ∈ blk a13, wl7.heap.size ≤ b ∧ b < w13.heap.size := by subst ea13; intro b hb; simp only [blk, List.mem_singleton] at hb; subst hb; exact ⟨Nat.le_of_eq hq13.symm, lt_of_heap hb13⟩
 clear hb13
 have hst := Stp.push (ls := [[b3], M]) (l := blk a13) he13 (fun _ h => by cases h) (fun b hb => (hn13 b hb).1)
 replace hs_p1 := hs_p1.step hst
 replace hb3 := he13.box hb3 nn
 replace hs_p0_0 := hs_p0_0.step hst
 replace hms := hms.push he13 hn13
 replace hfr := hfr.push (fun b hb => Nat.le_trans hev.size (hn13 b hb).1)
 replace hev := hev.ext he13
 have ho13 := hw13 (fl [blk a13, [b3], M])
 clear hw13
 rw [← ea13]
 refine x_u 1 [(7, .slice a13 (([y_s5_l7] : List Int)).length 1)] ?_
 refine x_ek ?_
 refine c_seq ?_
 refine c_sp ?_
 refine x_load (xv := Vp b3 0) (.agg #[Vl a_p0_0 p0_0 c_p0_0, Vi p0_1]) rfl rfl rfl (reads_boxagg 0 [Vl a_p0_0 p0_0 c_p0_0, Vi p0_1] tagg25 hb3 nn rfl) ?_
 refine x_u 2 [(32, Vl a_p1 p1 c_p1), (33, Vi y_s5_l7)] ?_
 obtain ⟨x15, hx, h⟩ := bind_some h
 have hpk : MS w13 ([] ++ [blk a13, [b3], M]) := hms.pick [some 0, some 1, some 2] _ rfl
 have hsb0 : ∀ x ∈ fl ([] ++ [blk a13, [b3], M]), x ∈ fl [blk a13, [b3], M] := pick_sub [some 0, some 1, some 2] _ rfl
 have hsb : ∀ x ∈ fl ([] ++ [(fl [blk a13, [b3], M])]), x ∈ fl [blk a13, [b3], M] := fun x hx => hsb0 x (fl_unfold x hx)
 have hcall := r11_Base_w a_p0_0 c_p0_0 p0_0 p0_1 a_p1 c_p1 p1 y_s5_l7 _ w13 (fl [blk a13, [b3], M]) (MS.fold (P := []) hpk) (hs_p0_0.sub hsb) (hs_p1.sub hsb) hx
 refine x_call 59 #[] #[] [.agg #[Vl a_p0_0 p0_0 c_p0_0, Vi p0_1], Vl a_p1 p1 c_p1, Vi y_s5_l7] _ rfl rfl rfl rfl hcall ?_
 rintro v w16 ⟨rfl, he16⟩
 clear hcall hx
 refine inl1 ?_
 have hst := Stp.ext (ls := [blk a13, [b3], M]) he16
 replace hs_p1 := hs_p1.step hst
 replace hb3 := he16.box hb3 nn
 replace hs_p0_0 := hs_p0_0.step hst
 replace ho13 := ho13.step hst he16 nn2
 replace hms := hms.ev he16
 replace hev := hev.ext he16
 clear hpk hsb hsb0
 refine x_u 1 [(8, Vi x15)] ?_
 refine x_ek ?_
 refine c_block ?_
 have hpk : MS w16 [[b3], blk a13, M] := hms.pick [some 1, some 0, some 2] _ rfl
 have hsu : ∀ x ∈ fl [[b3], blk a13, M], x ∈ fl [blk a13, [b3], M] := pick_sub [some 1, some 0, some 2] _ rfl
 replace hs_p1 := hs_p1.sub hsu
 replace hs_p0_0 := hs_p0_0.sub hsu
 replace ho13 := ho13.sub hsu
 replace hms := hpk
 replace hfr : FR w.heap.size [[b3], blk a13] := hfr.pick [some 1, some 0] _ rfl
 clear hpk hsu
 obtain ⟨d17, hd17, h17⟩ := bind_some h
 obtain ⟨m17, hd17⟩ := loop_some hd17
 refine c_loop (loop_rule hmx (σ := Nat × Int × (List Int) × Int × Option Addr × Nat) (fun s => match s with | (_, y_s5_l17, d14_l17, base_s8_l17, a14_l17, c14_l17) => [(1, Vl a_p1 p1 c_p1), (2, Vp b3 0), (5, Vi y_s5_l17), (7, Vl a14_l17 d14_l17 c14_l17), (8, Vi base_s8_l17)]) (fun s w' => match s with | (m, y_s5_l17, d14_l17, base_s8_l17, a14_l17, c14_l17) => loopN (r11_Back_L17 p0_0 p0_1 p1) m (y_s5_l17, d14_l17, base_s8_l17) = some d17 ∧ Ev [] w w' ∧ MS w' [[b3], blk a14_l17, M] ∧ FR w.heap.size [[b3], blk a14_l17] ∧ SlR (eInt .i64) w' (fl [[b3], blk a14_l17, M]) a_p1 c_p1 p1 ∧ SlR (eIt4) w' (fl [[b3], blk a14_l17, M]) a_p0_0 c_p0_0 p0_0 ∧ w'.heap[b3]? = some (.cells #[Vl a_p0_0 p0_0 c_p0_0, Vi p0_1] 25 (0, 0)) ∧ OwnS (eInt .i64) 3 w' (fl [[b3], blk a14_l17, M]) a14_l17 c14_l17 d14_l17) (fun s => s.1) (m17, y_s5_l7, ([y_s5_l7] : List Int), x15, a13, 1) ⟨rfl, rfl, rfl, rfl, rfl, trivial⟩ ⟨hd17, hev, hms, hfr, hs_p1, hs_p0_0, hb3, ho13⟩ ?_)
 rintro ⟨m17, y_s5_l17, d14_l17, base_s8_l17, a14_l17, c14_l17⟩ J wl17 ⟨hn17, hev, hms, hfr, hs_p1, hs_p0_0, hb3, hj14_l17⟩
 rcases m17 with _ | m17
 · exact (loopN_zero hn17).elim
 obtain ⟨t17, h, hn17⟩ := bind_some hn17
 refine c_seq ?_
 refine c_sp ?_
 refine x_u 2 [(35, Vi base_s8_l17), (36, .bool (decide (base_s8_l17 > 0)))] ?_
 refine x_ek ?_
 refine c_norm [(1, Vl a_p1 p1 c_p1), (2, Vp b3 0), (5, Vi y_s5_l17), (7, Vl a14_l17 d14_l17 c14_l17), (8, Vi base_s8_l17), (36, .bool (decide (base_s8_l17 > 0)))] ⟨rfl, rfl, rfl, rfl, rfl, rfl, trivial⟩ (fun J => ?_)
 refine c_if (decide (base_s8_l17 > 0)) rfl h (fun h => ?_) (fun h => ?_)
 · refine c_skip ?_
   refine k_then ?_
   refine c_seq ?_
   refine c_block ?_
   refine c_sp ?_
   refine x_u 1 [(9, Vi 0)] ?_
   refine x_ek ?_
   refine c_seq ?_
   refine c_block ?_
   obtain ⟨d20, hd20, h20⟩ := bind_some h
   obtain ⟨m20, hd20⟩ := loop_some hd20
   refine c_loop (loop_rule hmx (σ := Nat × Int) (fun s => match s with | (_, x_s9_l20) => [(1, Vl a_p1 p1 c_p1), (2, Vp b3 0), (5, Vi y_s5_l17), (7, Vl a14_l17 d14_l17 c14_l17), (8, Vi base_s8_l17), (9, Vi x_s9_l20)]) (fun s w' => match s with | (m, x_s9_l20) => loopN (r11_Back_L20 p0_0 p0_1 p1 y_s5_l17 base_s8_l17) m x_s9_l20 = some d20 ∧ Ev [] w w' ∧ MS w' [[b3], blk a14_l17, M] ∧ FR w.heap.size [[b3], blk a14_l17] ∧ SlR (eInt .i64) w' (fl [[b3], blk a14_l17, M]) a_p1 c_p1 p1 ∧ SlR (eIt4) w' (fl [[b3], blk a14_l17, M]) a_p0_0 c_p0_0 p0_0 ∧ w'.heap[b3]? = some (.cells #[Vl a_p0_0 p0_0 c_p0_0, Vi p0_1] 25 (0, 0)) ∧ OwnS (eInt .i64) 3 w' (fl [[b3], blk a14_l17, M]) a14_l17 c14_l17 d14_l17) (fun s => s.1) (m20, 0) ⟨rfl, rfl, rfl, rfl, rfl, rfl, trivial⟩ ⟨hd20, hev, hms, hfr, hs_p1, hs_p0_0, hb3, hj14_l17⟩ ?_)
   rintro ⟨m20, x_s9_l20⟩ J wl20 ⟨hn20, hev, hms, hfr, hs_p1, hs_p0_0, hb3, hj14_l17⟩
   rcases m20 with _ | m20
   · exact (loopN_zero hn20).elim
   obtain ⟨t20, h, hn20⟩ := bind_some hn20
   refine c_seq ?_
   refine c_seq ?_
   refine c_drawn [] [(0, false), (1, false), (2, false), (3, true), (4, false), (5, false), (6, false), (7, false), (8, false), (9, false), (10, false), (11, false), (12, false), (15, false), (13, false), (14, false), (16, false), (17, false)] _ (by kernel_rfl) rfl ?_
   have hst := Stp.ext (ls := [[b3], blk a14_l17, M]) (Ev.drew wl20)
   replace hs_p1 := hs_p1.step hst
   replace hb3 := (Ev.drew wl20).box hb3 nn
   replace hs_p0_0 := hs_p0_0.step hst
   replace hj14_l17 := hj14_l17.step hst (Ev.drew wl20) nn2
   replace hms := hms.ev (Ev.drew wl20)
   replace hev := hev.ext (Ev.drew wl20)
   refine x_load (xv := Vp b3 0) (.agg #[Vl a_p0_0 p0_0 c_p0_0, Vi p0_1]) rfl rfl rfl (reads_boxagg 0 [Vl a_p0_0 p0_0 c_p0_0, Vi p0_1] tagg25 hb3 nn rfl) ?_
   refine x_u 2 [(42, Vi x_s9_l20), (43, Vi y_s5_l17)] ?_
   obtain ⟨x21, hx, h⟩ := bind_some h
   have hpk : MS (wl20).drew ([] ++ [[b3], blk a14_l17, M]) := hms.pick [some 0, some 1, some 2] _ rfl
   have hsb0 : ∀ x ∈ fl ([] ++ [[b3], blk a14_l17, M]), x ∈ fl [[b3], blk a14_l17, M] := pick_sub [some 0, some 1, some 2] _ rfl
   have hsb : ∀ x ∈ fl ([] ++ [(fl [[b3], blk a14_l17, M])]), x ∈ fl [[b3], blk a14_l17, M] := fun x hx => hsb0 x (fl_unfold x hx)
   have hcall := r11_Kind_w a_p0_0 c_p0_0 p0_0 p0_1 x_s9_l20 y_s5_l17 _ (wl20).drew (fl [[b3], blk a14_l17, M]) (MS.fold (P := []) hpk) (hs_p0_0.sub hsb) hx
   refine x_call 18 #[] #[] [.agg #[Vl a_p0_0 p0_0 c_p0_0, Vi p0_1], Vi x_s9_l20, Vi y_s5_l17] _ rfl rfl rfl rfl hcall ?_
   rintro v w22 ⟨rfl, he22⟩
   clear hcall hx
   refine inl1 ?_
   have hst := Stp.ext (ls := [[b3], blk a14_l17, M]) he22
   replace hs_p1 := hs_p1.step hst
   replace hb3 := he22.box hb3 nn
   replace hs_p0_0 := hs_p0_0.step hst
   replace hj14_l17 := hj14_l17.step hst he22 nn2
   replace hms := hms.ev he22
   replace hev := hev.ext he22
   clear hpk hsb hsb0
   refine x_u 2 [(45, .bool (x21 == 0)), (46, .bool (x21 == 0))] ?_
   refine x_if 46 (x21 == 0) rfl h (fun h => ?_) (fun h => ?_)
   · refine x_u 12 [(47, undef), (48, undef), (49, undef), (50, undef), (51, undef), (52, undef), (53, undef), (56, undef), (54, undef), (55, undef), (57, undef), (58, .bool true)] ?_
     refine x_ek ?_
     refine c_norm [(1, Vl a_p1 p1 c_p1), (2, Vp b3 0), (5, Vi y_s5_l17), (7, Vl a14_l17 d14_l17 c14_l17), (8, Vi base_s8_l17), (9, Vi x_s9_l20), (58, .bool true)] ⟨rfl, rfl, rfl, rfl, rfl, rfl, rfl, trivial⟩ (fun J => ?_)
     refine c_true rfl ?_
     refine c_skip ?_
     refine k_then ?_
     refine c_block ?_
     refine c_plain ?_
     refine x_u 3 [(59, Vi x_s9_l20), (60, Vi (IntKind.i64.wrap (x_s9_l20 + 1))), (9, Vi (IntKind.i64.wrap (x_s9_l20 + 1)))] ?_
     refine x_end rfl ?_
     refine k_block ?_
     have hx := some_inj h
     subst hx
     exact k_then ⟨(m20, IntKind.i64.wrap (x_s9_l20 + 1)), ⟨rfl, rfl, rfl, rfl, rfl, rfl, trivial⟩, ⟨hn20, hev, hms, hfr, hs_p1, hs_p0_0, hb3, hj14_l17⟩, Nat.lt_succ_self _⟩
   refine x_u 2 [(47, Vl a_p1 p1 c_p1), (48, Vi x_s9_l20)] ?_
   obtain ⟨x23, hx23, h⟩ := bind_some h
   obtain ⟨ad23, cs23, hr23, hc23, hR⟩ := reads_index (Mo := []) tsl22 hs_p1 hx23
   obtain rfl := hR
   refine x_indexAddr (xv := Vl a_p1 p1 c_p1) (yv := Vi x_s9_l20) (.pointer (some ad23)) rfl rfl rfl rfl hr23 ?_
   refine x_load (xv := .pointer (some ad23)) (Vi x23) rfl rfl rfl (reads_cell0 tcell3 hc23 (fun _ h => by cases h)) ?_
   refine x_load (xv := Vp b3 0) (.agg #[Vl a_p0_0 p0_0 c_p0_0, Vi p0_1]) rfl rfl rfl (reads_boxagg 0 [Vl a_p0_0 p0_0 c_p0_0, Vi p0_1] tagg25 hb3 nn rfl) ?_
   refine x_u 3 [(52, Vi x_s9_l20), (53, Vi y_s5_l17), (56, Vi base_s8_l17)] ?_
   obtain ⟨x25, hx, h⟩ := bind_some h
   have hpk : MS w22 ([] ++ [[b3], blk a14_l17, M]) := hms.pick [some 0, some 1, some 2] _ rfl
   have hsb0 : ∀ x ∈ fl ([] ++ [[b3], blk a14_l17, M]), x ∈ fl [[b3], blk a14_l17, M] := pick_sub [some 0, some 1, some 2] _ rfl
   have hsb : ∀ x ∈ fl ([] ++ [(fl [[b3], blk a14_l17, M])]), x ∈ fl [[b3], blk a14_l17, M] := fun x hx => hsb0 x (fl_unfold x hx)
   have hcall := r11_Strict_w a_p0_0 c_p0_0 p0_0 p0_1 x_s9_l20 y_s5_l17 _ w22 (fl [[b3], blk a14_l17, M]) (MS.fold (P := []) hpk) (hs_p0_0.sub hsb) hx
   refine x_call 19 #[] #[] [.agg #[Vl a_p0_0 p0_0 c_p0_0, Vi p0_1], Vi x_s9_l20, Vi y_s5_l17] _ rfl rfl rfl rfl hcall ?_
   rintro v w26 ⟨rfl, he26⟩
   clear hcall hx
   refine ⟨.inr he26, ?_⟩
   have hst := Stp.ext (ls := [[b3], blk a14_l17, M]) he26
   replace hs_p1 := hs_p1.step hst
   replace hb3 := he26.box hb3 nn
   replace hs_p0_0 := hs_p0_0.step hst
   replace hj14_l17 := hj14_l17.step hst he26 nn2
   replace hc23 := hc23.step hst
   replace hms := hms.ev he26
   replace hev := hev.ext he26
   clear hpk hsb hsb0
   refine x_u 3 [(55, Vi (IntKind.i64.wrap (x23 + x25))), (57, .bool ((IntKind.i64.wrap (x23 + x25)) != base_s8_l17)), (58, .bool ((IntKind.i64.wrap (x23 + x25)) != base_s8_l17))] ?_
   refine x_ek ?_
   refine c_norm [(1, Vl a_p1 p1 c_p1), (2, Vp b3 0), (5, Vi y_s5_l17), (7, Vl a14_l17 d14_l17 c14_l17), (8, Vi base_s8_l17), (9, Vi x_s9_l20), (58, .bool ((IntKind.i64.wrap (x23 + x25)) != base_s8_l17))] ⟨rfl, rfl, rfl, rfl, rfl, rfl, rfl, trivial⟩ (fun J => ?_)
   refine c_if ((IntKind.i64.wrap (x23 + x25)) != base_s8_l17) rfl h (fun h => ?_) (fun h => ?_)
   · refine c_skip ?_
     refine k_then ?_
     refine c_block ?_
     refine c_plain ?_
     refine x_u 3 [(59, Vi x_s9_l20), (60, Vi (IntKind.i64.wrap (x_s9_l20 + 1))), (9, Vi (IntKind.i64.wrap (x_s9_l20 + 1)))] ?_
     refine x_end rfl ?_
     refine k_block ?_
     have hx := some_inj h
     subst hx
     exact k_then ⟨(m20, IntKind.i64.wrap (x_s9_l20 + 1)), ⟨rfl, rfl, rfl, rfl, rfl, rfl, trivial⟩, ⟨hn20, hev, hms, hfr, hs_p1, hs_p0_0, hb3, hj14_l17⟩, Nat.lt_succ_self _⟩
   refine c_exit ?_
   refine k_then_exit ?_
   have hx := some_inj h
   subst hx
   have hy := some_inj hn20
   subst hy
   replace h := h20
   refine k_then_exit ?_
   refine k_block_in ?_
   refine k_then ?_
   refine c_norm [(1, Vl a_p1 p1 c_p1), (2, Vp b3 0), (7, Vl a14_l17 d14_l17 c14_l17), (9, Vi x_s9_l20)] ⟨rfl, rfl, rfl, rfl, trivial⟩ (fun J => ?_)
   refine c_sp ?_
   refine x_u 1 [(61, Vi x_s9_l20)] ?_
   refine x_buildSlice (vs := [(0, Vi x_s9_l20)]) #[Vi x_s9_l20] 3 rfl rfl rfl (by kernel_rfl) (fun b27 w27 hq27 hb27 he27 hz27 => ?_)
   refine inl1 ?_
   obtain ⟨a27, ea27⟩ : ∃ a, a = some (⟨b27, 0, none⟩ : Addr) := ⟨_, rfl⟩
   have hw27 : ∀ M, OwnS (eInt .i64) 3 w27 M a27 1 ([x_s9_l20] : List Int) := fun M => ea27 ▸ own_of_box hb27 (by decide) rfl rfl (cells_at (cs := [Vi x_s9_l20]) (CellsOf.cons (c := [Vi x_s9_l20]) rfl CellsOf.nil))
   have hn27 : ∀ b ∈ blk a27, w26.heap.size ≤ b ∧ b < w27.heap.size := by subst ea27; intro b hb; simp only [blk, List.mem_singleton] at hb; subst hb; exact ⟨Nat.le_of_eq hq27.symm, lt_of_heap hb27⟩
   clear hb27
   have hst := Stp.push (ls := [[b3], blk a14_l17, M]) (l := blk a27) he27 (fun _ h => by cases h) (fun b hb => (hn27 b hb).1)
   replace hs_p1 := hs_p1.step hst
   replace hb3 := he27.box hb3 nn
   replace hs_p0_0 := hs_p0_0.step hst
   replace hj14_l17 := hj14_l17.step hst he27 nn2
   replace hms := hms.push he27 hn27
   replace hfr := hfr.push (fun b hb => Nat.le_trans hev.size (hn27 b hb).1)
   replace hev := hev.ext he27
   have ho27 := hw27 (fl [blk a27, [b3], blk a14_l17, M])
   clear hw27
   rw [← ea27]
   refine x_u 1 [(63, Vl a14_l17 d14_l17 c14_l17)] ?_
   have hg := guard_l h
   replace h := guard_r h
   obtain ⟨a29, c29, w29, hr29, he29, hn29, hm29, hw29⟩ := own_appendN (M := (blk a27)) tel22 22 (OwnS.plain (plain_int _) ho27) (fun _ h => h) (OwnS.ro (M := (blk a27)) (OwnS.plain (plain_int _) hj14_l17) (fun _ h => h) (hms.apart 2 0 rfl rfl rfl)) hg
   refine x_builtin (vs := [.slice a27 (([x_s9_l20] : List Int)).length 1, Vl a14_l17 d14_l17 c14_l17]) _ w29 rfl rfl rfl rfl (run_value _ _ _ _ hr29) ?_
   refine inl1 ?_
   have hst : Stp (fl [blk a27, [b3], blk a14_l17, M]) w27 (fl [blk a29, [b3], blk a14_l17, M]) w29 := Stp.upd 0 he29 rfl (fun b hb => (hn29 b hb).1)
   replace hs_p1 := hs_p1.step hst
   replace hb3 := he29.box hb3 (hms.apart 1 0 rfl rfl rfl _ mem1)
   replace hs_p0_0 := hs_p0_0.step hst
   replace hj14_l17 := hj14_l17.step hst he29 (hms.apart 2 0 rfl rfl rfl)
   replace hms : MS w29 [blk a29, [b3], blk a14_l17, M] := hms.upd 0 he29 rfl hn29
   have hfr2 : FR w.heap.size [blk a29, [b3], blk a14_l17] := hfr.upd 0 rfl hev.size (fun b hb => (hn29 b hb).1)
   replace hev := hev.then he29 (fun b hb => .inr (hfr.at 0 rfl b hb))
   replace hfr := hfr2
   clear hfr2
   replace ho27 := OwnS.plain (M' := fl [blk a29, [b3], blk a14_l17, M]) (plain_int _) (hw29 [] (fun _ h => by cases h))
   clear hw29
   refine x_u 1 [(7, .slice a29 ((([x_s9_l20] : List Int) ++ d14_l17)).length c29)] ?_
   refine x_ek ?_
   refine c_plain ?_
   refine x_u 2 [(65, Vi x_s9_l20), (5, Vi x_s9_l20)] ?_
   refine x_end rfl ?_
   refine k_block ?_
   refine k_then ?_
   refine c_plain ?_
   refine x_load (xv := Vp b3 0) (.agg #[Vl a_p0_0 p0_0 c_p0_0, Vi p0_1]) rfl rfl rfl (reads_boxagg 0 [Vl a_p0_0 p0_0 c_p0_0, Vi p0_1] tagg25 hb3 nn rfl) ?_
   refine x_u 2 [(38, Vl a_p1 p1 c_p1), (39, Vi x_s9_l20)] ?_
   obtain ⟨x30, hx, h⟩ := bind_some h
   have hpk : MS w29 ([] ++ [blk a29, [b3], blk a14_l17, M]) := hms.pick [some 0, some 1, some 2, some 3] _ rfl
   have hsb0 : ∀ x ∈ fl ([] ++ [blk a29, [b3], blk a14_l17, M]), x ∈ fl [blk a29, [b3], blk a14_l17, M] := pick_sub [some 0, some 1, some 2, some 3] _ rfl
   have hsb : ∀ x ∈ fl ([] ++ [(fl [blk a29, [b3], blk a14_l17, M])]), x ∈ fl [blk a29, [b3], blk a14_l17, M] := fun x hx => hsb0 x (fl_unfold x hx)
   have hcall := r11_Base_w a_p0_0 c_p0_0 p0_0 p0_1 a_p1 c_p1 p1 x_s9_l20 _ w29 (fl [blk a29, [b3], blk a14_l17, M]) (MS.fold (P := []) hpk) (hs_p0_0.sub hsb) (hs_p1.sub hsb) hx
   refine x_call 59 #[] #[] [.agg #[Vl a_p0_0 p0_0 c_p0_0, Vi p0_1], Vl a_p1 p1 c_p1, Vi x_s9_l20] _ rfl rfl rfl rfl hcall ?_
   rintro v w31 ⟨rfl, he31⟩
   clear hcall hx
   refine inl1 ?_
   have hst := Stp.ext (ls := [blk a29, [b3], blk a14_l17, M]) he31
   replace hs_p1 := hs_p1.step hst
   replace hb3 := he31.box hb3 nn
   replace hs_p0_0 := hs_p0_0.step hst
   replace hj14_l17 := hj14_l17.step hst he31 nn2
   replace ho27 := ho27.step hst he31 nn2
   replace hms := hms.ev he31
   replace hev := hev.ext he31
   clear hpk hsb hsb0
   refine x_u 1 [(8, Vi x30)] ?_
   refine x_end rfl ?_
   have hx := some_inj h
   subst hx
   have hpk : MS w31 [[b3], blk a29, M] := hms.pick [some 1, some 0, some 3] _ rfl
   have hsu : ∀ x ∈ fl [[b3], blk a29, M], x ∈ fl [blk a29, [b3], blk a14_l17, M] := pick_sub [some 1, some 0, some 3] _ rfl
   replace hs_p1 := hs_p1.sub hsu
   replace hs_p0_0 := hs_p0_0.sub hsu
   replace ho27 := ho27.sub hsu
   replace hms := hpk
   replace hfr : FR w.heap.size [[b3], blk a29] := hfr.pick [some 1, some 0] _ rfl
   clear hpk hsu
   exact k_then ⟨(m17, x_s9_l20, (([x_s9_l20] : List Int) ++ d14_l17), x30, a29, c29), ⟨rfl, rfl, rfl, rfl, rfl, trivial⟩, ⟨hn17, hev, hms, hfr, hs_p1, hs_p0_0, hb3, ho27⟩, Nat.lt_succ_self _⟩
 refine c_exit ?_
 refine k_then_exit ?_
 have hx := some_inj h
 subst hx
 have hy := some_inj hn17
 subst hy
 replace h := h17
 refine k_then_exit ?_
 refine k_block_in ?_
 refine k_then ?_
 refine c_norm [(7, Vl a14_l17 d14_l17 c14_l17)] ⟨rfl, trivial⟩ (fun J => ?_)
 refine c_sp ?_
 refine x_u 2 [(66, Vl a14_l17 d14_l17 c14_l17), (4, Vl a14_l17 d14_l17 c14_l17)] ?_
 refine x_ek ?_
 refine c_ret ?_
 refine r_ret (r_vals [Vl a14_l17 d14_l17 c14_l17] ⟨rfl, trivial⟩ ?_)
 have hx := some_inj h
 subst hx
 have hmr : MS wl17 [blk a14_l17, M] := hms.pick [some 1, some 2] _ rfl
 have hsu : ∀ x ∈ fl [blk a14_l17, M], x ∈ fl [[b3], blk a14_l17, M] := pick_sub [some 1, some 2] _ rfl
 have hfe : FR w.heap.size [blk a14_l17] := hfr.pick [some 1] _ rfl
 exact ⟨a14_l17, c14_l17, rfl, hev, hmr, hfe, hj14_l17.sub hsu⟩
end Go.Proofs.Ytcignnfdpgeogaa
