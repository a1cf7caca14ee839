/- Walks, printed by program: each function returns what the partial function of the same name returns. Conditions: those of each theorem. -/
import Derived.Test.YtmjobkpgnhbcbaaGT
set_option linter.unusedVariables false
set_option linter.unusedSimpArgs false
set_option maxRecDepth 4000
namespace Go.Proofs.Ytmjobkpgnhbcbaa
open Go Go.V Go.Proofs
def r11_Valid_L6 (p0_0 : List (Int × Int × Int × Int)) (s : Int) : Option (Step Int (Int ⊕ Unit)) :=
match s with
| i_s3_l6 =>
(if (decide (i_s3_l6 < ((p0_0).length : Int))) = true then
((idx p0_0 i_s3_l6).bind fun x8 =>
(if (decide (x8.1 < 0)) = true then
some (.done (.inl 2))
else
(if (decide (x8.1 ≥ 16)) = true then
some (.done (.inl 2))
else
(if (decide (x8.2.1 < 0)) = true then
some (.done (.inl 2))
else
(if (decide (x8.2.1 ≥ 32)) = true then
some (.done (.inl 2))
else
(if (decide (x8.2.2.1 < 0)) = true then
some (.done (.inl 2))
else
(if (decide (x8.2.2.1 ≥ 13)) = true then
some (.done (.inl 2))
else
(if (decide (x8.2.2.2 < 1)) = true then
some (.done (.inl 2))
else
(if (decide (x8.2.2.2 > 400)) = true then
some (.done (.inl 2))
else
(if (decide (i_s3_l6 > 0)) = true then
((idx p0_0 (IntKind.i64.wrap (i_s3_l6 - 1))).bind fun x14 =>
(if (decide (x8.2.2.1 < x14.2.2.1)) = true then
some (.done (.inl 12))
else
some (.next (IntKind.i64.wrap (i_s3_l6 + 1)))))
else
some (.next (IntKind.i64.wrap (i_s3_l6 + 1)))))))))))))
else
some (.done (.inr ())))

def r11_Valid (p0_0 : List (Int × Int × Int × Int)) (p0_1 : Int) : Option Int :=
(if (decide (((p0_0).length : Int) > 96)) = true then
some 3
else
(if (decide (p0_1 < 0)) = true then
some 2
else
(if (decide (p0_1 > 12)) = true then
some 2
else
((loop (r11_Valid_L6 p0_0) 0).bind fun d => match d with
| (.inl t2__s2_x600) => some t2__s2_x600
| (.inr _) => some 0))))

theorem r11_Valid_w (a_p0_0 : Option Addr) (c_p0_0 : Nat) (p0_0 : List (Int × Int × Int × Int)) (p0_1 : Int) (r : Int) (w : World) (M : List Nat) (hms : MS w [M]) (hs_p0_0 : SlR (eProd (eInt .i64) (eProd (eInt .i64) (eProd (eInt .i64) (eInt .i64)))) w (fl [M]) a_p0_0 c_p0_0 p0_0) (h : r11_Valid p0_0 p0_1 = some r) : CallVC Try.prog 51 [.agg #[.slice a_p0_0 (p0_0).length c_p0_0, .int .i64 p0_1]] w fun v w' => v = .int .i64 r ∧ Ev [] w w' := by
  refine calls_vc hmx Try.func51 (by kernel_rfl) rfl (rs := [.tmp 2]) rfl (by kernel_rfl) (args := [.agg #[.slice a_p0_0 (p0_0).length c_p0_0, .int .i64 p0_1]]) rfl ?_
  have hev : Ev [] w w := Ev.refl _ _
  have hfr : FR w.heap.size [] := FR.nil _
  refine c_seq (c_plain ?_)
  refine x_box (xv := .agg #[.slice a_p0_0 (p0_0).length c_p0_0, .int .i64 p0_1]) rfl rfl rfl (fun b2 w2 hq2 hb2 he2 _ => ?_)
  replace hb2 : w2.heap[b2]? = some (.cells #[.slice a_p0_0 (p0_0).length c_p0_0, .int .i64 p0_1] 27 (0, 0)) := hb2
  refine ⟨.inl rfl, ?_⟩
  have hst := Stp.box (ls := [M]) he2 hq2
  replace hs_p0_0 := hs_p0_0.step hst
  replace hms := hms.box he2 hq2 hb2
  replace hfr := hfr.box hev.size hq2
  replace hev := hev.ext he2
  refine x_pure 1 [(2, .int .i64 0)] _ _ _ (by kernel_rfl) ?_
  refine x_end rfl (k_then ?_)
  refine c_seq ?_
  refine c_seq (c_plain ?_)
  refine x_fieldAddr (xv := .pointer (some ⟨b2, 0, none⟩)) (.pointer (some ⟨b2, 0, none⟩)) rfl rfl rfl (reads_field tfld27_0 _ _) ?_
  refine x_load (xv := .pointer (some ⟨b2, 0, none⟩)) (.slice a_p0_0 (p0_0).length c_p0_0) rfl rfl rfl (reads_box tcell25 hb2 nn 0 _ rfl) ?_
  refine x_len (vs := [.slice a_p0_0 (p0_0).length c_p0_0]) (.int .i64 ((p0_0).length : Int)) rfl rfl rfl (reads_len tsl25 _ _ _ _ _) ?_
  refine x_pure 1 [(8, .bool (decide (((p0_0).length : Int) > 96)))] _ _ _ (by kernel_rfl) ?_
  refine x_end rfl (k_then ?_)
  refine c_cond (decide (((p0_0).length : Int) > 96)) rfl (fun hb => ?_) (fun hb => ?_)
  · replace h := ite_t hb h
    refine c_seq (c_plain ?_)
    refine x_pure 1 [(2, .int .i64 3)] _ _ _ (by kernel_rfl) ?_
    refine x_end rfl (k_then ?_)
    refine c_ret ?_
    refine k_then_ret ?_
    refine r_ret (r_vals [.int .i64 3] ⟨rfl, trivial⟩ ?_)
    have hx := some_inj h
    subst hx
    have hmr : MS w2 [M] := hms.pick [some 1] _ rfl
    have hsu : ∀ x ∈ fl [M], x ∈ fl [[b2], M] := pick_sub [some 1] _ rfl
    exact ⟨rfl, hev⟩
  replace h := ite_f hb h
  refine c_skip ?_
  refine k_then ?_
  refine c_seq ?_
  refine c_seq (c_plain ?_)
  refine x_fieldAddr (xv := .pointer (some ⟨b2, 0, none⟩)) (.pointer (some ⟨b2, 1, none⟩)) rfl rfl rfl (reads_field tfld27_1 _ _) ?_
  refine x_load (xv := .pointer (some ⟨b2, 1, none⟩)) (.int .i64 p0_1) rfl rfl rfl (reads_box tcell3 hb2 nn 1 _ rfl) ?_
  refine x_pure 2 [(11, .bool (decide (p0_1 < 0))), (12, .bool (decide (p0_1 < 0)))] _ _ _ (by kernel_rfl) ?_
  refine x_split 12 (decide (p0_1 < 0)) rfl (fun hb => ?_) (fun hb => ?_)
  · replace h := ite_t hb h
    refine x_pure 4 [(13, undef), (14, undef), (15, undef), (16, .bool true)] _ _ _ (by kernel_rfl) ?_
    refine x_end rfl (k_then ?_)
    refine c_norm [(1, .pointer (some ⟨b2, 0, none⟩)), (16, .bool true)] ⟨rfl, rfl, trivial⟩ (fun J => ?_)
    refine c_true rfl ?_
    refine c_seq (c_plain ?_)
    refine x_pure 1 [(2, .int .i64 2)] _ _ _ (by kernel_rfl) ?_
    refine x_end rfl (k_then ?_)
    refine c_ret ?_
    refine k_then_ret ?_
    refine r_ret (r_vals [.int .i64 2] ⟨rfl, trivial⟩ ?_)
    have hx := some_inj h
    subst hx
    have hmr : MS w2 [M] := hms.pick [some 1] _ rfl
    have hsu : ∀ x ∈ fl [M], x ∈ fl [[b2], M] := pick_sub [some 1] _ rfl
    exact ⟨rfl, hev⟩
  replace h := ite_f hb h
  refine x_fieldAddr (xv := .pointer (some ⟨b2, 0, none⟩)) (.pointer (some ⟨b2, 1, none⟩)) rfl rfl rfl (reads_field tfld27_1 _ _) ?_
  refine x_load (xv := .pointer (some ⟨b2, 1, none⟩)) (.int .i64 p0_1) rfl rfl rfl (reads_box tcell3 hb2 nn 1 _ rfl) ?_
  refine x_pure 2 [(15, .bool (decide (p0_1 > 12))), (16, .bool (decide (p0_1 > 12)))] _ _ _ (by kernel_rfl) ?_
  refine x_end rfl (k_then ?_)
  refine c_norm [(1, .pointer (some ⟨b2, 0, none⟩)), (16, .bool (decide (p0_1 > 12)))] ⟨rfl, rfl, trivial⟩ (fun J => ?_)
  refine c_cond (decide (p0_1 > 12)) rfl (fun hb => ?_) (fun hb => ?_)
  · replace h := ite_t hb h
    refine c_seq (c_plain ?_)
    refine x_pure 1 [(2, .int .i64 2)] _ _ _ (by kernel_rfl) ?_
    refine x_end rfl (k_then ?_)
    refine c_ret ?_
    refine k_then_ret ?_
    refine r_ret (r_vals [.int .i64 2] ⟨rfl, trivial⟩ ?_)
    have hx := some_inj h
    subst hx
    have hmr : MS w2 [M] := hms.pick [some 1] _ rfl
    have hsu : ∀ x ∈ fl [M], x ∈ fl [[b2], M] := pick_sub [some 1] _ rfl
    exact ⟨rfl, hev⟩
  replace h := ite_f hb h
  refine c_skip ?_
  refine k_then ?_
  refine c_seq ?_
  refine c_seq (c_plain ?_)
  refine x_pure 1 [(3, .int .i64 0)] _ _ _ (by kernel_rfl) ?_
  refine x_end rfl (k_then ?_)
  refine c_block ?_
  obtain ⟨d6, hd6, h6⟩ := bind_some h
  obtain ⟨m6, hd6⟩ := loop_some hd6
  refine c_loop (loop_rule hmx (σ := Nat × Int) (fun s => match s with | (_, i_s3_l6) => [(1, .pointer (some ⟨b2, 0, none⟩)), (3, .int .i64 i_s3_l6)]) (fun s w' => match s with | (m, i_s3_l6) => loopN (r11_Valid_L6 p0_0) m i_s3_l6 = some d6 ∧ Ev [] w w' ∧ MS w' [[b2], M] ∧ FR w.heap.size [[b2]] ∧ SlR (eProd (eInt .i64) (eProd (eInt .i64) (eProd (eInt .i64) (eInt .i64)))) w' (fl [[b2], M]) a_p0_0 c_p0_0 p0_0 ∧ w'.heap[b2]? = some (.cells #[.slice a_p0_0 (p0_0).length c_p0_0, .int .i64 p0_1] 27 (0, 0))) (fun s => s.1) (m6, 0) ⟨rfl, rfl, trivial⟩ ⟨hd6, hev, hms, hfr, hs_p0_0, hb2⟩ ?_)
  rintro ⟨m6, i_s3_l6⟩ J wl6 ⟨hn6, hev, hms, hfr, hs_p0_0, hb2⟩
  rcases m6 with _ | m6
  · exact (loopN_zero hn6).elim
  obtain ⟨t6, h, hn6⟩ := bind_some hn6
  refine c_seq ?_
  refine c_seq (c_plain ?_)
  refine x_pure 1 [(17, .int .i64 i_s3_l6)] _ _ _ (by kernel_rfl) ?_
  refine x_fieldAddr (xv := .pointer (some ⟨b2, 0, none⟩)) (.pointer (some ⟨b2, 0, none⟩)) rfl rfl rfl (reads_field tfld27_0 _ _) ?_
  refine x_load (xv := .pointer (some ⟨b2, 0, none⟩)) (.slice a_p0_0 (p0_0).length c_p0_0) rfl rfl rfl (reads_box tcell25 hb2 nn 0 _ rfl) ?_
  refine x_len (vs := [.slice a_p0_0 (p0_0).length c_p0_0]) (.int .i64 ((p0_0).length : Int)) rfl rfl rfl (reads_len tsl25 _ _ _ _ _) ?_
  refine x_pure 1 [(21, .bool (decide (i_s3_l6 < ((p0_0).length : Int))))] _ _ _ (by kernel_rfl) ?_
  refine x_end rfl (k_then ?_)
  refine c_norm [(1, .pointer (some ⟨b2, 0, none⟩)), (3, .int .i64 i_s3_l6), (21, .bool (decide (i_s3_l6 < ((p0_0).length : Int))))] ⟨rfl, rfl, rfl, trivial⟩ (fun J => ?_)
  refine c_cond (decide (i_s3_l6 < ((p0_0).length : Int))) rfl (fun hb => ?_) (fun hb => ?_)
  · replace h := ite_t hb h
    refine c_skip ?_
    refine k_then ?_
    refine c_seq ?_
    refine c_block ?_
    refine c_seq (c_plain ?_)
    refine x_fieldAddr (xv := .pointer (some ⟨b2, 0, none⟩)) (.pointer (some ⟨b2, 0, none⟩)) rfl rfl rfl (reads_field tfld27_0 _ _) ?_
    refine x_load (xv := .pointer (some ⟨b2, 0, none⟩)) (.slice a_p0_0 (p0_0).length c_p0_0) rfl rfl rfl (reads_box tcell25 hb2 nn 0 _ rfl) ?_
    refine x_pure 1 [(26, .int .i64 i_s3_l6)] _ _ _ (by kernel_rfl) ?_
    obtain ⟨x8, hx8, h⟩ := bind_some h
    obtain ⟨ad8, cs8, hr8, hc8, hR⟩ := reads_index (Mo := []) tsl25 hs_p0_0 hx8
    obtain ⟨_, _, rfl, rfl, ⟨_, _, rfl, rfl, ⟨_, _, rfl, rfl, rfl⟩⟩⟩ := hR
    refine x_indexAddr (xv := .slice a_p0_0 (p0_0).length c_p0_0) (yv := .int .i64 i_s3_l6) (.pointer (some ad8)) rfl rfl rfl rfl hr8 ?_
    refine x_load (xv := .pointer (some ad8)) (.agg #[.int .i64 x8.1, .int .i64 x8.2.1, .int .i64 x8.2.2.1, .int .i64 x8.2.2.2]) rfl rfl rfl (reads_agg tagg39 hc8 (fun _ h => by cases h)) ?_
    refine x_alloc (z := .agg #[.int .i64 0, .int .i64 0, .int .i64 0, .int .i64 0]) rfl rfl (by kernel_rfl) (fun b10 w10 hq10 hb10 he10 _ => ?_)
    replace hb10 : w10.heap[b10]? = some (.cells #[.int .i64 0, .int .i64 0, .int .i64 0, .int .i64 0] 39 (0, 0)) := hb10
    refine ⟨.inl rfl, ?_⟩
    have hst := Stp.box (ls := [[b2], M]) he10 hq10
    replace hb2 := he10.box hb2 nn
    replace hs_p0_0 := hs_p0_0.step hst
    replace hc8 := hc8.step hst
    replace hms := hms.box he10 hq10 hb10
    replace hfr := hfr.box hev.size hq10
    replace hev := hev.ext he10
    obtain ⟨w12, hr12, hb12, he12⟩ := store_boxagg 0 [.int .i64 x8.1, .int .i64 x8.2.1, .int .i64 x8.2.2.1, .int .i64 x8.2.2.2] #[.int .i64 x8.1, .int .i64 x8.2.1, .int .i64 x8.2.2.1, .int .i64 x8.2.2.2] tagg39 hb10 rfl rfl rfl
    refine x_store w12 (xv := .pointer (some ⟨b10, 0, none⟩)) (yv := .agg #[.int .i64 x8.1, .int .i64 x8.2.1, .int .i64 x8.2.2.1, .int .i64 x8.2.2.2]) rfl rfl rfl rfl hr12 ?_
    refine ⟨.inl rfl, ?_⟩
    have hst := Stp.ev' (ls := [[b10], [b2], M]) he12 (mem_flat 0 rfl)
    replace hb2 := he12.box hb2 (hms.apart 1 0 rfl rfl rfl _ (List.mem_singleton.2 rfl))
    replace hs_p0_0 := hs_p0_0.step hst
    replace hc8 := hc8.step hst
    replace hms := hms.ev he12
    replace hev := hev.then he12 (fun b hb => .inr (hfr.at 0 rfl b hb))
    replace hb10 := hb12
    refine x_end rfl (k_then ?_)
    refine c_seq ?_
    refine c_seq (c_plain ?_)
    refine x_fieldAddr (xv := .pointer (some ⟨b10, 0, none⟩)) (.pointer (some ⟨b10, 0, none⟩)) rfl rfl rfl (reads_field tfld39_0 _ _) ?_
    refine x_load (xv := .pointer (some ⟨b10, 0, none⟩)) (.int .i64 x8.1) rfl rfl rfl (reads_box tcell3 hb10 nn 0 _ rfl) ?_
    refine x_pure 2 [(31, .bool (decide (x8.1 < 0))), (32, .bool (decide (x8.1 < 0)))] _ _ _ (by kernel_rfl) ?_
    refine x_split 32 (decide (x8.1 < 0)) rfl (fun hb => ?_) (fun hb => ?_)
    · replace h := ite_t hb h
      refine x_pure 34 [(33, undef), (34, undef), (35, undef), (36, .bool true), (37, .bool true), (38, undef), (39, undef), (40, undef), (41, .bool true), (42, .bool true), (43, undef), (44, undef), (45, undef), (46, .bool true), (47, .bool true), (48, undef), (49, undef), (50, undef), (51, .bool true), (52, .bool true), (53, undef), (54, undef), (55, undef), (56, .bool true), (57, .bool true), (58, undef), (59, undef), (60, undef), (61, .bool true), (62, .bool true), (63, undef), (64, undef), (65, undef), (66, .bool true)] _ _ _ (by kernel_rfl) ?_
      refine x_end rfl (k_then ?_)
      refine c_norm [(1, .pointer (some ⟨b2, 0, none⟩)), (3, .int .i64 i_s3_l6), (4, .pointer (some ⟨b10, 0, none⟩)), (66, .bool true)] ⟨rfl, rfl, rfl, rfl, trivial⟩ (fun J => ?_)
      refine c_true rfl ?_
      refine c_seq (c_plain ?_)
      refine x_pure 1 [(2, .int .i64 2)] _ _ _ (by kernel_rfl) ?_
      refine x_end rfl (k_then ?_)
      refine c_ret ?_
      refine k_then_ret ?_
      refine k_block_ret ?_
      refine k_then_ret ?_
      have hx := some_inj h
      subst hx
      have hy := some_inj hn6
      subst hy
      replace h := h6
      refine k_then_ret ?_
      refine k_block_ret ?_
      refine k_then_ret ?_
      refine r_ret (r_vals [.int .i64 2] ⟨rfl, trivial⟩ ?_)
      have hx := some_inj h
      subst hx
      have hmr : MS w12 [M] := hms.pick [some 2] _ rfl
      have hsu : ∀ x ∈ fl [M], x ∈ fl [[b10], [b2], M] := pick_sub [some 2] _ rfl
      exact ⟨rfl, hev⟩
    replace h := ite_f hb h
    refine x_fieldAddr (xv := .pointer (some ⟨b10, 0, none⟩)) (.pointer (some ⟨b10, 0, none⟩)) rfl rfl rfl (reads_field tfld39_0 _ _) ?_
    refine x_load (xv := .pointer (some ⟨b10, 0, none⟩)) (.int .i64 x8.1) rfl rfl rfl (reads_box tcell3 hb10 nn 0 _ rfl) ?_
    refine x_pure 3 [(35, .bool (decide (x8.1 ≥ 16))), (36, .bool (decide (x8.1 ≥ 16))), (37, .bool (decide (x8.1 ≥ 16)))] _ _ _ (by kernel_rfl) ?_
    refine x_split 37 (decide (x8.1 ≥ 16)) rfl (fun hb => ?_) (fun hb => ?_)
    · replace h := ite_t hb h
      refine x_pure 29 [(38, undef), (39, undef), (40, undef), (41, .bool true), (42, .bool true), (43, undef), (44, undef), (45, undef), (46, .bool true), (47, .bool true), (48, undef), (49, undef), (50, undef), (51, .bool true), (52, .bool true), (53, undef), (54, undef), (55, undef), (56, .bool true), (57, .bool true), (58, undef), (59, undef), (60, undef), (61, .bool true), (62, .bool true), (63, undef), (64, undef), (65, undef), (66, .bool true)] _ _ _ (by kernel_rfl) ?_
      refine x_end rfl (k_then ?_)
      refine c_norm [(1, .pointer (some ⟨b2, 0, none⟩)), (3, .int .i64 i_s3_l6), (4, .pointer (some ⟨b10, 0, none⟩)), (66, .bool true)] ⟨rfl, rfl, rfl, rfl, trivial⟩ (fun J => ?_)
      refine c_true rfl ?_
      refine c_seq (c_plain ?_)
      refine x_pure 1 [(2, .int .i64 2)] _ _ _ (by kernel_rfl) ?_
      refine x_end rfl (k_then ?_)
      refine c_ret ?_
      refine k_then_ret ?_
      refine k_block_ret ?_
      refine k_then_ret ?_
      have hx := some_inj h
      subst hx
      have hy := some_inj hn6
      subst hy
      replace h := h6
      refine k_then_ret ?_
      refine k_block_ret ?_
      refine k_then_ret ?_
      refine r_ret (r_vals [.int .i64 2] ⟨rfl, trivial⟩ ?_)
      have hx := some_inj h
      subst hx
      have hmr : MS w12 [M] := hms.pick [some 2] _ rfl
      have hsu : ∀ x ∈ fl [M], x ∈ fl [[b10], [b2], M] := pick_sub [some 2] _ rfl
      exact ⟨rfl, hev⟩
    replace h := ite_f hb h
    refine x_fieldAddr (xv := .pointer (some ⟨b10, 0, none⟩)) (.pointer (some ⟨b10, 1, none⟩)) rfl rfl rfl (reads_field tfld39_1 _ _) ?_
    refine x_load (xv := .pointer (some ⟨b10, 1, none⟩)) (.int .i64 x8.2.1) rfl rfl rfl (reads_box tcell3 hb10 nn 1 _ rfl) ?_
    refine x_pure 3 [(40, .bool (decide (x8.2.1 < 0))), (41, .bool (decide (x8.2.1 < 0))), (42, .bool (decide (x8.2.1 < 0)))] _ _ _ (by kernel_rfl) ?_
    refine x_split 42 (decide (x8.2.1 < 0)) rfl (fun hb => ?_) (fun hb => ?_)
    · replace h := ite_t hb h
      refine x_pure 24 [(43, undef), (44, undef), (45, undef), (46, .bool true), (47, .bool true), (48, undef), (49, undef), (50, undef), (51, .bool true), (52, .bool true), (53, undef), (54, undef), (55, undef), (56, .bool true), (57, .bool true), (58, undef), (59, undef), (60, undef), (61, .bool true), (62, .bool true), (63, undef), (64, undef), (65, undef), (66, .bool true)] _ _ _ (by kernel_rfl) ?_
      refine x_end rfl (k_then ?_)
      refine c_norm [(1, .pointer (some ⟨b2, 0, none⟩)), (3, .int .i64 i_s3_l6), (4, .pointer (some ⟨b10, 0, none⟩)), (66, .bool true)] ⟨rfl, rfl, rfl, rfl, trivial⟩ (fun J => ?_)
      refine c_true rfl ?_
      refine c_seq (c_plain ?_)
      refine x_pure 1 [(2, .int .i64 2)] _ _ _ (by kernel_rfl) ?_
      refine x_end rfl (k_then ?_)
      refine c_ret ?_
      refine k_then_ret ?_
      refine k_block_ret ?_
      refine k_then_ret ?_
      have hx := some_inj h
      subst hx
      have hy := some_inj hn6
      subst hy
      replace h := h6
      refine k_then_ret ?_
      refine k_block_ret ?_
      refine k_then_ret ?_
      refine r_ret (r_vals [.int .i64 2] ⟨rfl, trivial⟩ ?_)
      have hx := some_inj h
      subst hx
      have hmr : MS w12 [M] := hms.pick [some 2] _ rfl
      have hsu : ∀ x ∈ fl [M], x ∈ fl [[b10], [b2], M] := pick_sub [some 2] _ rfl
      exact ⟨rfl, hev⟩
    replace h := ite_f hb h
    refine x_fieldAddr (xv := .pointer (some ⟨b10, 0, none⟩)) (.pointer (some ⟨b10, 1, none⟩)) rfl rfl rfl (reads_field tfld39_1 _ _) ?_
    refine x_load (xv := .pointer (some ⟨b10, 1, none⟩)) (.int .i64 x8.2.1) rfl rfl rfl (reads_box tcell3 hb10 nn 1 _ rfl) ?_
    refine x_pure 3 [(45, .bool (decide (x8.2.1 ≥ 32))), (46, .bool (decide (x8.2.1 ≥ 32))), (47, .bool (decide (x8.2.1 ≥ 32)))] _ _ _ (by kernel_rfl) ?_
    refine x_split 47 (decide (x8.2.1 ≥ 32)) rfl (fun hb => ?_) (fun hb => ?_)
    · replace h := ite_t hb h
      refine x_pure 19 [(48, undef), (49, undef), (50, undef), (51, .bool true), (52, .bool true), (53, undef), (54, undef), (55, undef), (56, .bool true), (57, .bool true), (58, undef), (59, undef), (60, undef), (61, .bool true), (62, .bool true), (63, undef), (64, undef), (65, undef), (66, .bool true)] _ _ _ (by kernel_rfl) ?_
      refine x_end rfl (k_then ?_)
      refine c_norm [(1, .pointer (some ⟨b2, 0, none⟩)), (3, .int .i64 i_s3_l6), (4, .pointer (some ⟨b10, 0, none⟩)), (66, .bool true)] ⟨rfl, rfl, rfl, rfl, trivial⟩ (fun J => ?_)
      refine c_true rfl ?_
      refine c_seq (c_plain ?_)
      refine x_pure 1 [(2, .int .i64 2)] _ _ _ (by kernel_rfl) ?_
      refine x_end rfl (k_then ?_)
      refine c_ret ?_
      refine k_then_ret ?_
      refine k_block_ret ?_
      refine k_then_ret ?_
      have hx := some_inj h
      subst hx
      have hy := some_inj hn6
      subst hy
      replace h := h6
      refine k_then_ret ?_
      refine k_block_ret ?_
      refine k_then_ret ?_
      refine r_ret (r_vals [.int .i64 2] ⟨rfl, trivial⟩ ?_)
      have hx := some_inj h
      subst hx
      have hmr : MS w12 [M] := hms.pick [some 2] _ rfl
      have hsu : ∀ x ∈ fl [M], x ∈ fl [[b10], [b2], M] := pick_sub [some 2] _ rfl
      exact ⟨rfl, hev⟩
    replace h := ite_f hb h
    refine x_fieldAddr (xv := .pointer (some ⟨b10, 0, none⟩)) (.pointer (some ⟨b10, 2, none⟩)) rfl rfl rfl (reads_field tfld39_2 _ _) ?_
    refine x_load (xv := .pointer (some ⟨b10, 2, none⟩)) (.int .i64 x8.2.2.1) rfl rfl rfl (reads_box tcell3 hb10 nn 2 _ rfl) ?_
    refine x_pure 3 [(50, .bool (decide (x8.2.2.1 < 0))), (51, .bool (decide (x8.2.2.1 < 0))), (52, .bool (decide (x8.2.2.1 < 0)))] _ _ _ (by kernel_rfl) ?_
    refine x_split 52 (decide (x8.2.2.1 < 0)) rfl (fun hb => ?_) (fun hb => ?_)
    · replace h := ite_t hb h
      refine x_pure 14 [(53, undef), (54, undef), (55, undef), (56, .bool true), (57, .bool true), (58, undef), (59, undef), (60, undef), (61, .bool true), (62, .bool true), (63, undef), (64, undef), (65, undef), (66, .bool true)] _ _ _ (by kernel_rfl) ?_
      refine x_end rfl (k_then ?_)
      refine c_norm [(1, .pointer (some ⟨b2, 0, none⟩)), (3, .int .i64 i_s3_l6), (4, .pointer (some ⟨b10, 0, none⟩)), (66, .bool true)] ⟨rfl, rfl, rfl, rfl, trivial⟩ (fun J => ?_)
      refine c_true rfl ?_
      refine c_seq (c_plain ?_)
      refine x_pure 1 [(2, .int .i64 2)] _ _ _ (by kernel_rfl) ?_
      refine x_end rfl (k_then ?_)
      refine c_ret ?_
      refine k_then_ret ?_
      refine k_block_ret ?_
      refine k_then_ret ?_
      have hx := some_inj h
      subst hx
      have hy := some_inj hn6
      subst hy
      replace h := h6
      refine k_then_ret ?_
      refine k_block_ret ?_
      refine k_then_ret ?_
      refine r_ret (r_vals [.int .i64 2] ⟨rfl, trivial⟩ ?_)
      have hx := some_inj h
      subst hx
      have hmr : MS w12 [M] := hms.pick [some 2] _ rfl
      have hsu : ∀ x ∈ fl [M], x ∈ fl [[b10], [b2], M] := pick_sub [some 2] _ rfl
      exact ⟨rfl, hev⟩
    replace h := ite_f hb h
    refine x_fieldAddr (xv := .pointer (some ⟨b10, 0, none⟩)) (.pointer (some ⟨b10, 2, none⟩)) rfl rfl rfl (reads_field tfld39_2 _ _) ?_
    refine x_load (xv := .pointer (some ⟨b10, 2, none⟩)) (.int .i64 x8.2.2.1) rfl rfl rfl (reads_box tcell3 hb10 nn 2 _ rfl) ?_
    refine x_pure 3 [(55, .bool (decide (x8.2.2.1 ≥ 13))), (56, .bool (decide (x8.2.2.1 ≥ 13))), (57, .bool (decide (x8.2.2.1 ≥ 13)))] _ _ _ (by kernel_rfl) ?_
    refine x_split 57 (decide (x8.2.2.1 ≥ 13)) rfl (fun hb => ?_) (fun hb => ?_)
    · replace h := ite_t hb h
      refine x_pure 9 [(58, undef), (59, undef), (60, undef), (61, .bool true), (62, .bool true), (63, undef), (64, undef), (65, undef), (66, .bool true)] _ _ _ (by kernel_rfl) ?_
      refine x_end rfl (k_then ?_)
      refine c_norm [(1, .pointer (some ⟨b2, 0, none⟩)), (3, .int .i64 i_s3_l6), (4, .pointer (some ⟨b10, 0, none⟩)), (66, .bool true)] ⟨rfl, rfl, rfl, rfl, trivial⟩ (fun J => ?_)
      refine c_true rfl ?_
      refine c_seq (c_plain ?_)
      refine x_pure 1 [(2, .int .i64 2)] _ _ _ (by kernel_rfl) ?_
      refine x_end rfl (k_then ?_)
      refine c_ret ?_
      refine k_then_ret ?_
      refine k_block_ret ?_
      refine k_then_ret ?_
      have hx := some_inj h
      subst hx
      have hy := some_inj hn6
      subst hy
      replace h := h6
      refine k_then_ret ?_
      refine k_block_ret ?_
      refine k_then_ret ?_
      refine r_ret (r_vals [.int .i64 2] ⟨rfl, trivial⟩ ?_)
      have hx := some_inj h
      subst hx
      have hmr : MS w12 [M] := hms.pick [some 2] _ rfl
      have hsu : ∀ x ∈ fl [M], x ∈ fl [[b10], [b2], M] := pick_sub [some 2] _ rfl
      exact ⟨rfl, hev⟩
    replace h := ite_f hb h
    refine x_fieldAddr (xv := .pointer (some ⟨b10, 0, none⟩)) (.pointer (some ⟨b10, 3, none⟩)) rfl rfl rfl (reads_field tfld39_3 _ _) ?_
    refine x_load (xv := .pointer (some ⟨b10, 3, none⟩)) (.int .i64 x8.2.2.2) rfl rfl rfl (reads_box tcell3 hb10 nn 3 _ rfl) ?_
    refine x_pure 3 [(60, .bool (decide (x8.2.2.2 < 1))), (61, .bool (decide (x8.2.2.2 < 1))), (62, .bool (decide (x8.2.2.2 < 1)))] _ _ _ (by kernel_rfl) ?_
    refine x_split 62 (decide (x8.2.2.2 < 1)) rfl (fun hb => ?_) (fun hb => ?_)
    · replace h := ite_t hb h
      refine x_pure 4 [(63, undef), (64, undef), (65, undef), (66, .bool true)] _ _ _ (by kernel_rfl) ?_
      refine x_end rfl (k_then ?_)
      refine c_norm [(1, .pointer (some ⟨b2, 0, none⟩)), (3, .int .i64 i_s3_l6), (4, .pointer (some ⟨b10, 0, none⟩)), (66, .bool true)] ⟨rfl, rfl, rfl, rfl, trivial⟩ (fun J => ?_)
      refine c_true rfl ?_
      refine c_seq (c_plain ?_)
      refine x_pure 1 [(2, .int .i64 2)] _ _ _ (by kernel_rfl) ?_
      refine x_end rfl (k_then ?_)
      refine c_ret ?_
      refine k_then_ret ?_
      refine k_block_ret ?_
      refine k_then_ret ?_
      have hx := some_inj h
      subst hx
      have hy := some_inj hn6
      subst hy
      replace h := h6
      refine k_then_ret ?_
      refine k_block_ret ?_
      refine k_then_ret ?_
      refine r_ret (r_vals [.int .i64 2] ⟨rfl, trivial⟩ ?_)
      have hx := some_inj h
      subst hx
      have hmr : MS w12 [M] := hms.pick [some 2] _ rfl
      have hsu : ∀ x ∈ fl [M], x ∈ fl [[b10], [b2], M] := pick_sub [some 2] _ rfl
      exact ⟨rfl, hev⟩
    replace h := ite_f hb h
    refine x_fieldAddr (xv := .pointer (some ⟨b10, 0, none⟩)) (.pointer (some ⟨b10, 3, none⟩)) rfl rfl rfl (reads_field tfld39_3 _ _) ?_
    refine x_load (xv := .pointer (some ⟨b10, 3, none⟩)) (.int .i64 x8.2.2.2) rfl rfl rfl (reads_box tcell3 hb10 nn 3 _ rfl) ?_
    refine x_pure 2 [(65, .bool (decide (x8.2.2.2 > 400))), (66, .bool (decide (x8.2.2.2 > 400)))] _ _ _ (by kernel_rfl) ?_
    refine x_end rfl (k_then ?_)
    refine c_norm [(1, .pointer (some ⟨b2, 0, none⟩)), (3, .int .i64 i_s3_l6), (4, .pointer (some ⟨b10, 0, none⟩)), (66, .bool (decide (x8.2.2.2 > 400)))] ⟨rfl, rfl, rfl, rfl, trivial⟩ (fun J => ?_)
    refine c_cond (decide (x8.2.2.2 > 400)) rfl (fun hb => ?_) (fun hb => ?_)
    · replace h := ite_t hb h
      refine c_seq (c_plain ?_)
      refine x_pure 1 [(2, .int .i64 2)] _ _ _ (by kernel_rfl) ?_
      refine x_end rfl (k_then ?_)
      refine c_ret ?_
      refine k_then_ret ?_
      refine k_block_ret ?_
      refine k_then_ret ?_
      have hx := some_inj h
      subst hx
      have hy := some_inj hn6
      subst hy
      replace h := h6
      refine k_then_ret ?_
      refine k_block_ret ?_
      refine k_then_ret ?_
      refine r_ret (r_vals [.int .i64 2] ⟨rfl, trivial⟩ ?_)
      have hx := some_inj h
      subst hx
      have hmr : MS w12 [M] := hms.pick [some 2] _ rfl
      have hsu : ∀ x ∈ fl [M], x ∈ fl [[b10], [b2], M] := pick_sub [some 2] _ rfl
      exact ⟨rfl, hev⟩
    replace h := ite_f hb h
    refine c_skip ?_
    refine k_then ?_
    refine c_seq ?_
    refine c_drawn [] [(0, false), (1, false), (2, false), (3, false), (4, false), (5, false), (6, false), (7, false), (8, false), (9, false), (10, false), (11, false), (12, false), (13, false)] _ (by kernel_rfl) rfl ?_
    have hst := Stp.ext (ls := [[b10], [b2], M]) (Ev.drew w12)
    replace hb2 := (Ev.drew w12).box hb2 nn
    replace hs_p0_0 := hs_p0_0.step hst
    replace hb10 := (Ev.drew w12).box hb10 nn
    replace hms := hms.ev (Ev.drew w12)
    replace hev := hev.ext (Ev.drew w12)
    refine x_pure 3 [(67, .int .i64 i_s3_l6), (68, .bool (decide (i_s3_l6 > 0))), (69, .bool (decide (i_s3_l6 > 0)))] _ _ _ (by kernel_rfl) ?_
    refine x_split 69 (decide (i_s3_l6 > 0)) rfl (fun hb => ?_) (fun hb => ?_)
    · replace h := ite_t hb h
      refine x_fieldAddr (xv := .pointer (some ⟨b10, 0, none⟩)) (.pointer (some ⟨b10, 2, none⟩)) rfl rfl rfl (reads_field tfld39_2 _ _) ?_
      refine x_load (xv := .pointer (some ⟨b10, 2, none⟩)) (.int .i64 x8.2.2.1) rfl rfl rfl (reads_box tcell3 hb10 nn 2 _ rfl) ?_
      refine x_fieldAddr (xv := .pointer (some ⟨b2, 0, none⟩)) (.pointer (some ⟨b2, 0, none⟩)) rfl rfl rfl (reads_field tfld27_0 _ _) ?_
      refine x_load (xv := .pointer (some ⟨b2, 0, none⟩)) (.slice a_p0_0 (p0_0).length c_p0_0) rfl rfl rfl (reads_box tcell25 hb2 nn 0 _ rfl) ?_
      refine x_pure 2 [(74, .int .i64 i_s3_l6), (75, .int .i64 (IntKind.i64.wrap (i_s3_l6 - 1)))] _ _ _ (by kernel_rfl) ?_
      obtain ⟨x14, hx14, h⟩ := bind_some h
      obtain ⟨ad14, cs14, hr14, hc14, hR⟩ := reads_index (Mo := []) tsl25 hs_p0_0 hx14
      obtain ⟨_, _, rfl, rfl, ⟨_, _, rfl, rfl, ⟨_, _, rfl, rfl, rfl⟩⟩⟩ := hR
      refine x_indexAddr (xv := .slice a_p0_0 (p0_0).length c_p0_0) (yv := .int .i64 (IntKind.i64.wrap (i_s3_l6 - 1))) (.pointer (some ad14)) rfl rfl rfl rfl hr14 ?_
      refine x_fieldAddr (xv := .pointer (some ad14)) (.pointer (some (Addr.add ad14 2))) rfl rfl rfl (reads_field tfld39_2 _ _) ?_
      refine x_load (xv := .pointer (some (Addr.add ad14 2))) (.int .i64 x14.2.2.1) rfl rfl rfl (reads_cell tcell3 hc14 (fun _ h => by cases h) 2 _ rfl) ?_
      refine x_pure 2 [(79, .bool (decide (x8.2.2.1 < x14.2.2.1))), (80, .bool (decide (x8.2.2.1 < x14.2.2.1)))] _ _ _ (by kernel_rfl) ?_
      refine x_end rfl (k_then ?_)
      refine c_norm [(1, .pointer (some ⟨b2, 0, none⟩)), (3, .int .i64 i_s3_l6), (80, .bool (decide (x8.2.2.1 < x14.2.2.1)))] ⟨rfl, rfl, rfl, trivial⟩ (fun J => ?_)
      refine c_cond (decide (x8.2.2.1 < x14.2.2.1)) rfl (fun hb => ?_) (fun hb => ?_)
      · replace h := ite_t hb h
        refine c_seq (c_plain ?_)
        refine x_pure 1 [(2, .int .i64 12)] _ _ _ (by kernel_rfl) ?_
        refine x_end rfl (k_then ?_)
        refine c_ret ?_
        refine k_block_ret ?_
        refine k_then_ret ?_
        have hx := some_inj h
        subst hx
        have hy := some_inj hn6
        subst hy
        replace h := h6
        refine k_then_ret ?_
        refine k_block_ret ?_
        refine k_then_ret ?_
        refine r_ret (r_vals [.int .i64 12] ⟨rfl, trivial⟩ ?_)
        have hx := some_inj h
        subst hx
        have hmr : MS (w12).drew [M] := hms.pick [some 2] _ rfl
        have hsu : ∀ x ∈ fl [M], x ∈ fl [[b10], [b2], M] := pick_sub [some 2] _ rfl
        exact ⟨rfl, hev⟩
      replace h := ite_f hb h
      refine c_skip ?_
      refine k_block ?_
      refine k_then ?_
      refine c_plain ?_
      refine x_pure 3 [(22, .int .i64 i_s3_l6), (23, .int .i64 (IntKind.i64.wrap (i_s3_l6 + 1))), (3, .int .i64 (IntKind.i64.wrap (i_s3_l6 + 1)))] _ _ _ (by kernel_rfl) ?_
      refine x_end rfl ?_
      have hx := some_inj h
      subst hx
      have hpk : MS (w12).drew [[b2], M] := hms.pick [some 1, some 2] _ rfl
      have hsu : ∀ x ∈ fl [[b2], M], x ∈ fl [[b10], [b2], M] := pick_sub [some 1, some 2] _ rfl
      replace hs_p0_0 := hs_p0_0.sub hsu
      replace hms := hpk
      replace hfr : FR w.heap.size [[b2]] := hfr.pick [some 1] _ rfl
      clear hpk hsu
      exact k_then ⟨(m6, IntKind.i64.wrap (i_s3_l6 + 1)), ⟨rfl, rfl, trivial⟩, ⟨hn6, hev, hms, hfr, hs_p0_0, hb2⟩, Nat.lt_succ_self _⟩
    replace h := ite_f hb h
    refine x_pure 11 [(70, undef), (71, undef), (72, undef), (73, undef), (74, undef), (75, undef), (76, undef), (77, undef), (78, undef), (79, undef), (80, .bool false)] _ _ _ (by kernel_rfl) ?_
    refine x_end rfl (k_then ?_)
    refine c_norm [(1, .pointer (some ⟨b2, 0, none⟩)), (3, .int .i64 i_s3_l6), (80, .bool false)] ⟨rfl, rfl, rfl, trivial⟩ (fun J => ?_)
    refine c_false rfl ?_
    refine c_skip ?_
    refine k_block ?_
    refine k_then ?_
    refine c_plain ?_
    refine x_pure 3 [(22, .int .i64 i_s3_l6), (23, .int .i64 (IntKind.i64.wrap (i_s3_l6 + 1))), (3, .int .i64 (IntKind.i64.wrap (i_s3_l6 + 1)))] _ _ _ (by kernel_rfl) ?_
    refine x_end rfl ?_
    have hx := some_inj h
    subst hx
    have hpk : MS (w12).drew [[b2], M] := hms.pick [some 1, some 2] _ rfl
    have hsu : ∀ x ∈ fl [[b2], M], x ∈ fl [[b10], [b2], M] := pick_sub [some 1, some 2] _ rfl
    replace hs_p0_0 := hs_p0_0.sub hsu
    replace hms := hpk
    replace hfr : FR w.heap.size [[b2]] := hfr.pick [some 1] _ rfl
    clear hpk hsu
    exact k_then ⟨(m6, IntKind.i64.wrap (i_s3_l6 + 1)), ⟨rfl, rfl, trivial⟩, ⟨hn6, hev, hms, hfr, hs_p0_0, hb2⟩, Nat.lt_succ_self _⟩
  replace h := ite_f hb h
  refine c_exit ?_
  refine k_then_exit ?_
  have hx := some_inj h
  subst hx
  have hy := some_inj hn6
  subst hy
  replace h := h6
  refine k_then_exit ?_
  refine k_block_in ?_
  refine k_then ?_
  refine c_norm [] trivial (fun J => ?_)
  refine c_seq (c_plain ?_)
  refine x_pure 1 [(2, .int .i64 0)] _ _ _ (by kernel_rfl) ?_
  refine x_end rfl (k_then ?_)
  refine c_ret ?_
  refine r_ret (r_vals [.int .i64 0] ⟨rfl, trivial⟩ ?_)
  have hx := some_inj h
  subst hx
  have hmr : MS wl6 [M] := hms.pick [some 1] _ rfl
  have hsu : ∀ x ∈ fl [M], x ∈ fl [[b2], M] := pick_sub [some 1] _ rfl
  exact ⟨rfl, hev⟩
end Go.Proofs.Ytmjobkpgnhbcbaa
