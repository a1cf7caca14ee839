/- Walks, printed by program: each function returns what the partial function of the same name returns. Conditions: those of each theorem. -/
import Derived.Test.YtmjobkpgnhbcbaaGT
import Derived.Test.YtmjobkpgnhbcbaaGr11
import Derived.Test.YtmjobkpgnhbcbaaGr12
set_option linter.unusedVariables false
set_option linter.unusedSimpArgs false
set_option maxRecDepth 4000
namespace Go.Proofs.Ytmjobkpgnhbcbaa
open Go Go.V Go.Proofs
def r14_Valid_L11 (p0_0 : List (Int × Int × Int × Int)) (p0_1 : Int) (p1_0 : Int) (p1_1 : List Int) (s : Int) : Option (Step Int (Unit ⊕ Unit)) :=
match s with
| i_s6_l11 =>
(if (decide (i_s6_l11 < ((p1_1).length : Int))) = true then
((idx p1_1 i_s6_l11).bind fun x13 =>
(if 0 ≤ p1_0 then
(if (decide (x13 ≥ (IntKind.i64.wrap (1 * 2 ^ (min (Int.toNat (p1_0)) IntKind.i64.bits))))) = true then
some (.done (.inl ()))
else
((idx p1_1 i_s6_l11).bind fun x15 =>
((idx p0_0 i_s6_l11).bind fun x17 =>
((r12_Is x15 x17.2.2.1 p0_1).bind fun x19 =>
(if (!x19) = true then
some (.done (.inl ()))
else
some (.next (IntKind.i64.wrap (i_s6_l11 + 1))))))))
else none))
else
some (.done (.inr ())))

def r14_Valid (p0_0 : List (Int × Int × Int × Int)) (p0_1 : Int) (p1_0 : Int) (p1_1 : List Int) : Option Int :=
((r11_Valid p0_0 p0_1).bind fun x8 =>
(if (x8 != 0) = true then
some x8
else
(if (decide (p1_0 < 0)) = true then
some 1
else
(if (decide (p1_0 > 12)) = true then
some 1
else
(if (((p1_1).length : Int) != ((p0_0).length : Int)) = true then
some 1
else
((loop (r14_Valid_L11 p0_0 p0_1 p1_0 p1_1) 0).bind fun d => match d with
| (.inl _) => some 1
| (.inr _) => some 0))))))

theorem r14_Valid_w (a_p0_0 : Option Addr) (c_p0_0 : Nat) (p0_0 : List (Int × Int × Int × Int)) (p0_1 : Int) (p1_0 : Int) (a_p1_1 : Option Addr) (c_p1_1 : Nat) (p1_1 : List Int) (r : Int) (w : World) (M : List Nat) (hms : MS w [M]) (hs_p0_0 : SlR (eProd (eInt .i64) (eProd (eInt .i64) (eProd (eInt .i64) (eInt .i64)))) w (fl [M]) a_p0_0 c_p0_0 p0_0) (hs_p1_1 : SlR (eInt .i64) w (fl [M]) a_p1_1 c_p1_1 p1_1) (h : r14_Valid p0_0 p0_1 p1_0 p1_1 = some r) : CallVC Try.prog 37 [.agg #[.slice a_p0_0 (p0_0).length c_p0_0, .int .i64 p0_1], .agg #[.int .i64 p1_0, .slice a_p1_1 (p1_1).length c_p1_1]] w fun v w' => v = .int .i64 r ∧ Ev [] w w' := by
  refine calls_vc hmx Try.func37 (by kernel_rfl) rfl (rs := [.tmp 4]) rfl (by kernel_rfl) (args := [.agg #[.slice a_p0_0 (p0_0).length c_p0_0, .int .i64 p0_1], .agg #[.int .i64 p1_0, .slice a_p1_1 (p1_1).length c_p1_1]]) rfl ?_
  have hev : Ev [] w w := Ev.refl _ _
  have hfr : FR w.heap.size [] := FR.nil _
  refine c_seq (c_plain ?_)
  refine x_box (xv := .agg #[.slice a_p0_0 (p0_0).length c_p0_0, .int .i64 p0_1]) rfl rfl rfl (fun b3 w3 hq3 hb3 he3 _ => ?_)
  replace hb3 : w3.heap[b3]? = some (.cells #[.slice a_p0_0 (p0_0).length c_p0_0, .int .i64 p0_1] 27 (0, 0)) := hb3
  refine ⟨.inl rfl, ?_⟩
  have hst := Stp.box (ls := [M]) he3 hq3
  replace hs_p0_0 := hs_p0_0.step hst
  replace hs_p1_1 := hs_p1_1.step hst
  replace hms := hms.box he3 hq3 hb3
  replace hfr := hfr.box hev.size hq3
  replace hev := hev.ext he3
  refine x_box (xv := .agg #[.int .i64 p1_0, .slice a_p1_1 (p1_1).length c_p1_1]) rfl rfl rfl (fun b5 w5 hq5 hb5 he5 _ => ?_)
  replace hb5 : w5.heap[b5]? = some (.cells #[.int .i64 p1_0, .slice a_p1_1 (p1_1).length c_p1_1] 30 (0, 0)) := hb5
  refine ⟨.inl rfl, ?_⟩
  have hst := Stp.box (ls := [[b3], M]) he5 hq5
  replace hs_p0_0 := hs_p0_0.step hst
  replace hs_p1_1 := hs_p1_1.step hst
  replace hb3 := he5.box hb3 nn
  replace hms := hms.box he5 hq5 hb5
  replace hfr := hfr.box hev.size hq5
  replace hev := hev.ext he5
  refine x_pure 1 [(4, .int .i64 0)] _ _ _ (by kernel_rfl) ?_
  refine x_end rfl (k_then ?_)
  refine c_seq ?_
  refine c_seq (c_plain ?_)
  refine x_load (xv := .pointer (some ⟨b3, 0, none⟩)) (.agg #[.slice a_p0_0 (p0_0).length c_p0_0, .int .i64 p0_1]) rfl rfl rfl (reads_boxagg 0 [.slice a_p0_0 (p0_0).length c_p0_0, .int .i64 p0_1] tagg27 hb3 nn rfl) ?_
  obtain ⟨x8, hx, h⟩ := bind_some h
  have hpk : MS w5 ([] ++ [[b5], [b3], M]) := hms.pick [some 0, some 1, some 2] _ rfl
  have hsb0 : ∀ x ∈ fl ([] ++ [[b5], [b3], M]), x ∈ fl [[b5], [b3], M] := pick_sub [some 0, some 1, some 2] _ rfl
  have hsb : ∀ x ∈ fl ([] ++ [(fl [[b5], [b3], M])]), x ∈ fl [[b5], [b3], M] := fun x hx => hsb0 x (fl_unfold x hx)
  have hcall := r11_Valid_w a_p0_0 c_p0_0 p0_0 p0_1 _ w5 (fl [[b5], [b3], M]) (MS.fold (P := []) hpk) (hs_p0_0.sub hsb) hx
  refine x_call 51 #[] #[] [.agg #[.slice a_p0_0 (p0_0).length c_p0_0, .int .i64 p0_1]] _ rfl rfl rfl rfl hcall ?_
  rintro v w9 ⟨rfl, he9⟩
  clear hcall hx
  refine ⟨.inl rfl, ?_⟩
  have hst := Stp.ext (ls := [[b5], [b3], M]) he9
  replace hs_p0_0 := hs_p0_0.step hst
  replace hs_p1_1 := hs_p1_1.step hst
  replace hb3 := he9.box hb3 nn
  replace hb5 := he9.box hb5 nn
  replace hms := hms.ev he9
  replace hev := hev.ext he9
  clear hpk hsb hsb0
  refine x_pure 1 [(5, .int .i64 x8)] _ _ _ (by kernel_rfl) ?_
  refine x_end rfl (k_then ?_)
  refine c_seq (c_plain ?_)
  refine x_pure 2 [(9, .int .i64 x8), (10, .bool (x8 != 0))] _ _ _ (by kernel_rfl) ?_
  refine x_end rfl (k_then ?_)
  refine c_cond (x8 != 0) rfl (fun hb => ?_) (fun hb => ?_)
  · replace h := ite_t hb h
    refine c_seq (c_plain ?_)
    refine x_pure 2 [(11, .int .i64 x8), (4, .int .i64 x8)] _ _ _ (by kernel_rfl) ?_
    refine x_end rfl (k_then ?_)
    refine c_ret ?_
    refine k_then_ret ?_
    refine r_ret (r_vals [.int .i64 x8] ⟨rfl, trivial⟩ ?_)
    have hx := some_inj h
    subst hx
    have hmr : MS w9 [M] := hms.pick [some 2] _ rfl
    have hsu : ∀ x ∈ fl [M], x ∈ fl [[b5], [b3], M] := pick_sub [some 2] _ rfl
    exact ⟨rfl, hev⟩
  replace h := ite_f hb h
  refine c_skip ?_
  refine k_then ?_
  refine c_seq ?_
  refine c_seq (c_plain ?_)
  refine x_fieldAddr (xv := .pointer (some ⟨b5, 0, none⟩)) (.pointer (some ⟨b5, 0, none⟩)) rfl rfl rfl (reads_field tfld30_0 _ _) ?_
  refine x_load (xv := .pointer (some ⟨b5, 0, none⟩)) (.int .i64 p1_0) rfl rfl rfl (reads_box tcell3 hb5 nn 0 _ rfl) ?_
  refine x_pure 2 [(14, .bool (decide (p1_0 < 0))), (15, .bool (decide (p1_0 < 0)))] _ _ _ (by kernel_rfl) ?_
  refine x_split 15 (decide (p1_0 < 0)) rfl (fun hb => ?_) (fun hb => ?_)
  · replace h := ite_t hb h
    refine x_pure 13 [(16, undef), (17, undef), (18, undef), (19, .bool true), (20, .bool true), (21, undef), (22, undef), (23, undef), (24, undef), (25, undef), (26, undef), (27, undef), (28, .bool true)] _ _ _ (by kernel_rfl) ?_
    refine x_end rfl (k_then ?_)
    refine c_norm [(2, .pointer (some ⟨b3, 0, none⟩)), (3, .pointer (some ⟨b5, 0, none⟩)), (28, .bool true)] ⟨rfl, rfl, rfl, trivial⟩ (fun J => ?_)
    refine c_true rfl ?_
    refine c_seq (c_plain ?_)
    refine x_pure 1 [(4, .int .i64 1)] _ _ _ (by kernel_rfl) ?_
    refine x_end rfl (k_then ?_)
    refine c_ret ?_
    refine k_then_ret ?_
    refine r_ret (r_vals [.int .i64 1] ⟨rfl, trivial⟩ ?_)
    have hx := some_inj h
    subst hx
    have hmr : MS w9 [M] := hms.pick [some 2] _ rfl
    have hsu : ∀ x ∈ fl [M], x ∈ fl [[b5], [b3], M] := pick_sub [some 2] _ rfl
    exact ⟨rfl, hev⟩
  replace h := ite_f hb h
  refine x_fieldAddr (xv := .pointer (some ⟨b5, 0, none⟩)) (.pointer (some ⟨b5, 0, none⟩)) rfl rfl rfl (reads_field tfld30_0 _ _) ?_
  refine x_load (xv := .pointer (some ⟨b5, 0, none⟩)) (.int .i64 p1_0) rfl rfl rfl (reads_box tcell3 hb5 nn 0 _ rfl) ?_
  refine x_pure 3 [(18, .bool (decide (p1_0 > 12))), (19, .bool (decide (p1_0 > 12))), (20, .bool (decide (p1_0 > 12)))] _ _ _ (by kernel_rfl) ?_
  refine x_split 20 (decide (p1_0 > 12)) rfl (fun hb => ?_) (fun hb => ?_)
  · replace h := ite_t hb h
    refine x_pure 8 [(21, undef), (22, undef), (23, undef), (24, undef), (25, undef), (26, undef), (27, undef), (28, .bool true)] _ _ _ (by kernel_rfl) ?_
    refine x_end rfl (k_then ?_)
    refine c_norm [(2, .pointer (some ⟨b3, 0, none⟩)), (3, .pointer (some ⟨b5, 0, none⟩)), (28, .bool true)] ⟨rfl, rfl, rfl, trivial⟩ (fun J => ?_)
    refine c_true rfl ?_
    refine c_seq (c_plain ?_)
    refine x_pure 1 [(4, .int .i64 1)] _ _ _ (by kernel_rfl) ?_
    refine x_end rfl (k_then ?_)
    refine c_ret ?_
    refine k_then_ret ?_
    refine r_ret (r_vals [.int .i64 1] ⟨rfl, trivial⟩ ?_)
    have hx := some_inj h
    subst hx
    have hmr : MS w9 [M] := hms.pick [some 2] _ rfl
    have hsu : ∀ x ∈ fl [M], x ∈ fl [[b5], [b3], M] := pick_sub [some 2] _ rfl
    exact ⟨rfl, hev⟩
  replace h := ite_f hb h
  refine x_fieldAddr (xv := .pointer (some ⟨b5, 0, none⟩)) (.pointer (some ⟨b5, 1, none⟩)) rfl rfl rfl (reads_field tfld30_1 _ _) ?_
  refine x_load (xv := .pointer (some ⟨b5, 1, none⟩)) (.slice a_p1_1 (p1_1).length c_p1_1) rfl rfl rfl (reads_box tcell22 hb5 nn 1 _ rfl) ?_
  refine x_len (vs := [.slice a_p1_1 (p1_1).length c_p1_1]) (.int .i64 ((p1_1).length : Int)) rfl rfl rfl (reads_len tsl22 _ _ _ _ _) ?_
  refine x_fieldAddr (xv := .pointer (some ⟨b3, 0, none⟩)) (.pointer (some ⟨b3, 0, none⟩)) rfl rfl rfl (reads_field tfld27_0 _ _) ?_
  refine x_load (xv := .pointer (some ⟨b3, 0, none⟩)) (.slice a_p0_0 (p0_0).length c_p0_0) rfl rfl rfl (reads_box tcell25 hb3 nn 0 _ rfl) ?_
  refine x_len (vs := [.slice a_p0_0 (p0_0).length c_p0_0]) (.int .i64 ((p0_0).length : Int)) rfl rfl rfl (reads_len tsl25 _ _ _ _ _) ?_
  refine x_pure 2 [(27, .bool (((p1_1).length : Int) != ((p0_0).length : Int))), (28, .bool (((p1_1).length : Int) != ((p0_0).length : Int)))] _ _ _ (by kernel_rfl) ?_
  refine x_end rfl (k_then ?_)
  refine c_norm [(2, .pointer (some ⟨b3, 0, none⟩)), (3, .pointer (some ⟨b5, 0, none⟩)), (28, .bool (((p1_1).length : Int) != ((p0_0).length : Int)))] ⟨rfl, rfl, rfl, trivial⟩ (fun J => ?_)
  refine c_cond (((p1_1).length : Int) != ((p0_0).length : Int)) rfl (fun hb => ?_) (fun hb => ?_)
  · replace h := ite_t hb h
    refine c_seq (c_plain ?_)
    refine x_pure 1 [(4, .int .i64 1)] _ _ _ (by kernel_rfl) ?_
    refine x_end rfl (k_then ?_)
    refine c_ret ?_
    refine k_then_ret ?_
    refine r_ret (r_vals [.int .i64 1] ⟨rfl, trivial⟩ ?_)
    have hx := some_inj h
    subst hx
    have hmr : MS w9 [M] := hms.pick [some 2] _ rfl
    have hsu : ∀ x ∈ fl [M], x ∈ fl [[b5], [b3], M] := pick_sub [some 2] _ rfl
    exact ⟨rfl, hev⟩
  replace h := ite_f hb h
  refine c_skip ?_
  refine k_then ?_
  refine c_seq ?_
  refine c_seq (c_plain ?_)
  refine x_pure 1 [(6, .int .i64 0)] _ _ _ (by kernel_rfl) ?_
  refine x_end rfl (k_then ?_)
  refine c_block ?_
  have hpk : MS w9 [[b3], [b5], M] := hms.pick [some 1, some 0, some 2] _ rfl
  have hsu : ∀ x ∈ fl [[b3], [b5], M], x ∈ fl [[b5], [b3], M] := pick_sub [some 1, some 0, some 2] _ rfl
  replace hs_p0_0 := hs_p0_0.sub hsu
  replace hs_p1_1 := hs_p1_1.sub hsu
  replace hms := hpk
  replace hfr : FR w.heap.size [[b3], [b5]] := hfr.pick [some 1, some 0] _ rfl
  clear hpk hsu
  obtain ⟨d11, hd11, h11⟩ := bind_some h
  obtain ⟨m11, hd11⟩ := loop_some hd11
  refine c_loop (loop_rule hmx (σ := Nat × Int) (fun s => match s with | (_, i_s6_l11) => [(2, .pointer (some ⟨b3, 0, none⟩)), (3, .pointer (some ⟨b5, 0, none⟩)), (6, .int .i64 i_s6_l11)]) (fun s w' => match s with | (m, i_s6_l11) => loopN (r14_Valid_L11 p0_0 p0_1 p1_0 p1_1) m i_s6_l11 = some d11 ∧ Ev [] w w' ∧ MS w' [[b3], [b5], M] ∧ FR w.heap.size [[b3], [b5]] ∧ SlR (eProd (eInt .i64) (eProd (eInt .i64) (eProd (eInt .i64) (eInt .i64)))) w' (fl [[b3], [b5], M]) a_p0_0 c_p0_0 p0_0 ∧ w'.heap[b3]? = some (.cells #[.slice a_p0_0 (p0_0).length c_p0_0, .int .i64 p0_1] 27 (0, 0)) ∧ SlR (eInt .i64) w' (fl [[b3], [b5], M]) a_p1_1 c_p1_1 p1_1 ∧ w'.heap[b5]? = some (.cells #[.int .i64 p1_0, .slice a_p1_1 (p1_1).length c_p1_1] 30 (0, 0))) (fun s => s.1) (m11, 0) ⟨rfl, rfl, rfl, trivial⟩ ⟨hd11, hev, hms, hfr, hs_p0_0, hb3, hs_p1_1, hb5⟩ ?_)
  rintro ⟨m11, i_s6_l11⟩ J wl11 ⟨hn11, hev, hms, hfr, hs_p0_0, hb3, hs_p1_1, hb5⟩
  rcases m11 with _ | m11
  · exact (loopN_zero hn11).elim
  obtain ⟨t11, h, hn11⟩ := bind_some hn11
  refine c_seq ?_
  refine c_seq (c_plain ?_)
  refine x_pure 1 [(29, .int .i64 i_s6_l11)] _ _ _ (by kernel_rfl) ?_
  refine x_fieldAddr (xv := .pointer (some ⟨b5, 0, none⟩)) (.pointer (some ⟨b5, 1, none⟩)) rfl rfl rfl (reads_field tfld30_1 _ _) ?_
  refine x_load (xv := .pointer (some ⟨b5, 1, none⟩)) (.slice a_p1_1 (p1_1).length c_p1_1) rfl rfl rfl (reads_box tcell22 hb5 nn 1 _ rfl) ?_
  refine x_len (vs := [.slice a_p1_1 (p1_1).length c_p1_1]) (.int .i64 ((p1_1).length : Int)) rfl rfl rfl (reads_len tsl22 _ _ _ _ _) ?_
  refine x_pure 1 [(33, .bool (decide (i_s6_l11 < ((p1_1).length : Int))))] _ _ _ (by kernel_rfl) ?_
  refine x_end rfl (k_then ?_)
  refine c_norm [(2, .pointer (some ⟨b3, 0, none⟩)), (3, .pointer (some ⟨b5, 0, none⟩)), (6, .int .i64 i_s6_l11), (33, .bool (decide (i_s6_l11 < ((p1_1).length : Int))))] ⟨rfl, rfl, rfl, rfl, trivial⟩ (fun J => ?_)
  refine c_cond (decide (i_s6_l11 < ((p1_1).length : Int))) rfl (fun hb => ?_) (fun hb => ?_)
  · replace h := ite_t hb h
    refine c_skip ?_
    refine k_then ?_
    refine c_seq ?_
    refine c_block ?_
    refine c_seq ?_
    refine c_drawn [] [(0, false), (1, false), (2, false), (3, false), (4, false), (5, false), (6, false), (7, false), (8, false), (9, false), (10, false), (11, false), (12, false), (13, false), (14, false), (15, false), (16, false), (17, false), (18, false), (19, false), (20, false), (21, false), (22, false), (23, false), (24, false), (25, false)] _ (by kernel_rfl) rfl ?_
    have hst := Stp.ext (ls := [[b3], [b5], M]) (Ev.drew wl11)
    replace hb3 := (Ev.drew wl11).box hb3 nn
    replace hs_p0_0 := hs_p0_0.step hst
    replace hb5 := (Ev.drew wl11).box hb5 nn
    replace hs_p1_1 := hs_p1_1.step hst
    replace hms := hms.ev (Ev.drew wl11)
    replace hev := hev.ext (Ev.drew wl11)
    refine x_fieldAddr (xv := .pointer (some ⟨b5, 0, none⟩)) (.pointer (some ⟨b5, 1, none⟩)) rfl rfl rfl (reads_field tfld30_1 _ _) ?_
    refine x_load (xv := .pointer (some ⟨b5, 1, none⟩)) (.slice a_p1_1 (p1_1).length c_p1_1) rfl rfl rfl (reads_box tcell22 hb5 nn 1 _ rfl) ?_
    refine x_pure 1 [(38, .int .i64 i_s6_l11)] _ _ _ (by kernel_rfl) ?_
    obtain ⟨x13, hx13, h⟩ := bind_some h
    obtain ⟨ad13, cs13, hr13, hc13, hR⟩ := reads_index (Mo := []) tsl22 hs_p1_1 hx13
    obtain rfl := hR
    refine x_indexAddr (xv := .slice a_p1_1 (p1_1).length c_p1_1) (yv := .int .i64 i_s6_l11) (.pointer (some ad13)) rfl rfl rfl rfl hr13 ?_
    refine x_load (xv := .pointer (some ad13)) (.int .i64 x13) rfl rfl rfl (reads_cell0 tcell3 hc13 (fun _ h => by cases h)) ?_
    refine x_fieldAddr (xv := .pointer (some ⟨b5, 0, none⟩)) (.pointer (some ⟨b5, 0, none⟩)) rfl rfl rfl (reads_field tfld30_0 _ _) ?_
    refine x_load (xv := .pointer (some ⟨b5, 0, none⟩)) (.int .i64 p1_0) rfl rfl rfl (reads_box tcell3 hb5 nn 0 _ rfl) ?_
    refine x_binop (.int .i64 (IntKind.i64.wrap (1 * 2 ^ (min (Int.toNat (p1_0)) IntKind.i64.bits)))) (.int .i64 1) (.int .i64 p1_0) rfl rfl rfl rfl (vb_shl (guard_l h)) ?_
    replace h := guard_r h
    refine x_pure 2 [(44, .bool (decide (x13 ≥ (IntKind.i64.wrap (1 * 2 ^ (min (Int.toNat (p1_0)) IntKind.i64.bits)))))), (45, .bool (decide (x13 ≥ (IntKind.i64.wrap (1 * 2 ^ (min (Int.toNat (p1_0)) IntKind.i64.bits))))))] _ _ _ (by kernel_rfl) ?_
    refine x_split 45 (decide (x13 ≥ (IntKind.i64.wrap (1 * 2 ^ (min (Int.toNat (p1_0)) IntKind.i64.bits))))) rfl (fun hb => ?_) (fun hb => ?_)
    · replace h := ite_t hb h
      refine x_pure 16 [(46, undef), (47, undef), (48, undef), (49, undef), (50, undef), (51, undef), (52, undef), (53, undef), (54, undef), (55, undef), (56, undef), (57, undef), (58, undef), (59, undef), (60, undef), (61, .bool true)] _ _ _ (by kernel_rfl) ?_
      refine x_end rfl (k_then ?_)
      refine c_norm [(2, .pointer (some ⟨b3, 0, none⟩)), (3, .pointer (some ⟨b5, 0, none⟩)), (6, .int .i64 i_s6_l11), (61, .bool true)] ⟨rfl, rfl, rfl, rfl, trivial⟩ (fun J => ?_)
      refine c_true rfl ?_
      refine c_seq (c_plain ?_)
      refine x_pure 1 [(4, .int .i64 1)] _ _ _ (by kernel_rfl) ?_
      refine x_end rfl (k_then ?_)
      refine c_ret ?_
      refine k_block_ret ?_
      refine k_then_ret ?_
      have hx := some_inj h
      subst hx
      have hy := some_inj hn11
      subst hy
      replace h := h11
      refine k_then_ret ?_
      refine k_block_ret ?_
      refine k_then_ret ?_
      refine r_ret (r_vals [.int .i64 1] ⟨rfl, trivial⟩ ?_)
      have hx := some_inj h
      subst hx
      have hmr : MS (wl11).drew [M] := hms.pick [some 2] _ rfl
      have hsu : ∀ x ∈ fl [M], x ∈ fl [[b3], [b5], M] := pick_sub [some 2] _ rfl
      exact ⟨rfl, hev⟩
    replace h := ite_f hb h
    refine x_fieldAddr (xv := .pointer (some ⟨b5, 0, none⟩)) (.pointer (some ⟨b5, 1, none⟩)) rfl rfl rfl (reads_field tfld30_1 _ _) ?_
    refine x_load (xv := .pointer (some ⟨b5, 1, none⟩)) (.slice a_p1_1 (p1_1).length c_p1_1) rfl rfl rfl (reads_box tcell22 hb5 nn 1 _ rfl) ?_
    refine x_pure 1 [(48, .int .i64 i_s6_l11)] _ _ _ (by kernel_rfl) ?_
    obtain ⟨x15, hx15, h⟩ := bind_some h
    obtain ⟨ad15, cs15, hr15, hc15, hR⟩ := reads_index (Mo := []) tsl22 hs_p1_1 hx15
    obtain rfl := hR
    refine x_indexAddr (xv := .slice a_p1_1 (p1_1).length c_p1_1) (yv := .int .i64 i_s6_l11) (.pointer (some ad15)) rfl rfl rfl rfl hr15 ?_
    refine x_load (xv := .pointer (some ad15)) (.int .i64 x15) rfl rfl rfl (reads_cell0 tcell3 hc15 (fun _ h => by cases h)) ?_
    refine x_fieldAddr (xv := .pointer (some ⟨b3, 0, none⟩)) (.pointer (some ⟨b3, 0, none⟩)) rfl rfl rfl (reads_field tfld27_0 _ _) ?_
    refine x_load (xv := .pointer (some ⟨b3, 0, none⟩)) (.slice a_p0_0 (p0_0).length c_p0_0) rfl rfl rfl (reads_box tcell25 hb3 nn 0 _ rfl) ?_
    refine x_pure 1 [(53, .int .i64 i_s6_l11)] _ _ _ (by kernel_rfl) ?_
    obtain ⟨x17, hx17, h⟩ := bind_some h
    obtain ⟨ad17, cs17, hr17, hc17, hR⟩ := reads_index (Mo := []) tsl25 hs_p0_0 hx17
    obtain ⟨_, _, rfl, rfl, ⟨_, _, rfl, rfl, ⟨_, _, rfl, rfl, rfl⟩⟩⟩ := hR
    refine x_indexAddr (xv := .slice a_p0_0 (p0_0).length c_p0_0) (yv := .int .i64 i_s6_l11) (.pointer (some ad17)) rfl rfl rfl rfl hr17 ?_
    refine x_fieldAddr (xv := .pointer (some ad17)) (.pointer (some (Addr.add ad17 2))) rfl rfl rfl (reads_field tfld39_2 _ _) ?_
    refine x_load (xv := .pointer (some (Addr.add ad17 2))) (.int .i64 x17.2.2.1) rfl rfl rfl (reads_cell tcell3 hc17 (fun _ h => by cases h) 2 _ rfl) ?_
    refine x_fieldAddr (xv := .pointer (some ⟨b3, 0, none⟩)) (.pointer (some ⟨b3, 1, none⟩)) rfl rfl rfl (reads_field tfld27_1 _ _) ?_
    refine x_load (xv := .pointer (some ⟨b3, 1, none⟩)) (.int .i64 p0_1) rfl rfl rfl (reads_box tcell3 hb3 nn 1 _ rfl) ?_
    obtain ⟨x19, hx, h⟩ := bind_some h
    have hcall := r12_Is_w x15 x17.2.2.1 p0_1 _ (wl11).drew hx
    refine x_call 46 #[] #[] [.int .i64 x15, .int .i64 x17.2.2.1, .int .i64 p0_1] _ rfl rfl rfl rfl hcall ?_
    rintro v w20 ⟨rfl, he20⟩
    clear hcall hx
    refine ⟨.inr he20, ?_⟩
    have hst := Stp.ext (ls := [[b3], [b5], M]) he20
    replace hb3 := he20.box hb3 nn
    replace hs_p0_0 := hs_p0_0.step hst
    replace hb5 := he20.box hb5 nn
    replace hs_p1_1 := hs_p1_1.step hst
    replace hc13 := hc13.step hst
    replace hc15 := hc15.step hst
    replace hc17 := hc17.step hst
    replace hms := hms.ev he20
    replace hev := hev.ext he20
    refine x_pure 2 [(60, .bool (!x19)), (61, .bool (!x19))] _ _ _ (by kernel_rfl) ?_
    refine x_end rfl (k_then ?_)
    refine c_norm [(2, .pointer (some ⟨b3, 0, none⟩)), (3, .pointer (some ⟨b5, 0, none⟩)), (6, .int .i64 i_s6_l11), (61, .bool (!x19))] ⟨rfl, rfl, rfl, rfl, trivial⟩ (fun J => ?_)
    refine c_cond (!x19) rfl (fun hb => ?_) (fun hb => ?_)
    · replace h := ite_t hb h
      refine c_seq (c_plain ?_)
      refine x_pure 1 [(4, .int .i64 1)] _ _ _ (by kernel_rfl) ?_
      refine x_end rfl (k_then ?_)
      refine c_ret ?_
      refine k_block_ret ?_
      refine k_then_ret ?_
      have hx := some_inj h
      subst hx
      have hy := some_inj hn11
      subst hy
      replace h := h11
      refine k_then_ret ?_
      refine k_block_ret ?_
      refine k_then_ret ?_
      refine r_ret (r_vals [.int .i64 1] ⟨rfl, trivial⟩ ?_)
      have hx := some_inj h
      subst hx
      have hmr : MS w20 [M] := hms.pick [some 2] _ rfl
      have hsu : ∀ x ∈ fl [M], x ∈ fl [[b3], [b5], M] := pick_sub [some 2] _ rfl
      exact ⟨rfl, hev⟩
    replace h := ite_f hb h
    refine c_skip ?_
    refine k_block ?_
    refine k_then ?_
    refine c_plain ?_
    refine x_pure 3 [(34, .int .i64 i_s6_l11), (35, .int .i64 (IntKind.i64.wrap (i_s6_l11 + 1))), (6, .int .i64 (IntKind.i64.wrap (i_s6_l11 + 1)))] _ _ _ (by kernel_rfl) ?_
    refine x_end rfl ?_
    have hx := some_inj h
    subst hx
    exact k_then ⟨(m11, IntKind.i64.wrap (i_s6_l11 + 1)), ⟨rfl, rfl, rfl, trivial⟩, ⟨hn11, hev, hms, hfr, hs_p0_0, hb3, hs_p1_1, hb5⟩, Nat.lt_succ_self _⟩
  replace h := ite_f hb h
  refine c_exit ?_
  refine k_then_exit ?_
  have hx := some_inj h
  subst hx
  have hy := some_inj hn11
  subst hy
  replace h := h11
  refine k_then_exit ?_
  refine k_block_in ?_
  refine k_then ?_
  refine c_norm [] trivial (fun J => ?_)
  refine c_seq (c_plain ?_)
  refine x_pure 1 [(4, .int .i64 0)] _ _ _ (by kernel_rfl) ?_
  refine x_end rfl (k_then ?_)
  refine c_ret ?_
  refine r_ret (r_vals [.int .i64 0] ⟨rfl, trivial⟩ ?_)
  have hx := some_inj h
  subst hx
  have hmr : MS wl11 [M] := hms.pick [some 2] _ rfl
  have hsu : ∀ x ∈ fl [M], x ∈ fl [[b3], [b5], M] := pick_sub [some 2] _ rfl
  exact ⟨rfl, hev⟩
def r14_trains_L4 (p0_0 : List (Int × Int × Int × Int)) (s : Int × Int) : Option (Step (Int × Int) Int) :=
match s with
| (n_s3_l4, i_s4_l4) =>
(if (decide (i_s4_l4 < ((p0_0).length : Int))) = true then
((idx p0_0 i_s4_l4).bind fun x6 =>
some (.next (if (IntKind.i64.wrap (x6.1 + 1)) > n_s3_l4 then (IntKind.i64.wrap (x6.1 + 1)) else n_s3_l4, IntKind.i64.wrap (i_s4_l4 + 1))))
else
some (.done n_s3_l4))

def r14_trains (p0_0 : List (Int × Int × Int × Int)) (p0_1 : Int) : Option Int :=
((loop (r14_trains_L4 p0_0) (0, 0)).bind fun d => match d with
| n_s3_x4 => some n_s3_x4)

theorem r14_trains_w (a_p0_0 : Option Addr) (c_p0_0 : Nat) (p0_0 : List (Int × Int × Int × Int)) (p0_1 : Int) (r : Int) (w : World) (M : List Nat) (hms : MS w [M]) (hs_p0_0 : SlR (eProd (eInt .i64) (eProd (eInt .i64) (eProd (eInt .i64) (eInt .i64)))) w (fl [M]) a_p0_0 c_p0_0 p0_0) (h : r14_trains p0_0 p0_1 = some r) : CallVC Try.prog 52 [.agg #[.slice a_p0_0 (p0_0).length c_p0_0, .int .i64 p0_1]] w fun v w' => v = .int .i64 r ∧ Ev [] w w' := by
  refine calls_vc hmx Try.func52 (by kernel_rfl) rfl (rs := [.tmp 2]) rfl (by kernel_rfl) (args := [.agg #[.slice a_p0_0 (p0_0).length c_p0_0, .int .i64 p0_1]]) rfl ?_
  have hev : Ev [] w w := Ev.refl _ _
  have hfr : FR w.heap.size [] := FR.nil _
  refine c_seq (c_plain ?_)
  refine x_box (xv := .agg #[.slice a_p0_0 (p0_0).length c_p0_0, .int .i64 p0_1]) rfl rfl rfl (fun b2 w2 hq2 hb2 he2 _ => ?_)
  replace hb2 : w2.heap[b2]? = some (.cells #[.slice a_p0_0 (p0_0).length c_p0_0, .int .i64 p0_1] 27 (0, 0)) := hb2
  refine ⟨.inl rfl, ?_⟩
  have hst := Stp.box (ls := [M]) he2 hq2
  replace hs_p0_0 := hs_p0_0.step hst
  replace hms := hms.box he2 hq2 hb2
  replace hfr := hfr.box hev.size hq2
  replace hev := hev.ext he2
  refine x_pure 1 [(2, .int .i64 0)] _ _ _ (by kernel_rfl) ?_
  refine x_end rfl (k_then ?_)
  refine c_seq (c_plain ?_)
  refine x_pure 1 [(3, .int .i64 0)] _ _ _ (by kernel_rfl) ?_
  refine x_end rfl (k_then ?_)
  refine c_seq ?_
  refine c_seq (c_plain ?_)
  refine x_pure 1 [(4, .int .i64 0)] _ _ _ (by kernel_rfl) ?_
  refine x_end rfl (k_then ?_)
  refine c_block ?_
  obtain ⟨d4, hd4, h4⟩ := bind_some h
  obtain ⟨m4, hd4⟩ := loop_some hd4
  refine c_loop (loop_rule hmx (σ := Nat × Int × Int) (fun s => match s with | (_, n_s3_l4, i_s4_l4) => [(1, .pointer (some ⟨b2, 0, none⟩)), (3, .int .i64 n_s3_l4), (4, .int .i64 i_s4_l4)]) (fun s w' => match s with | (m, n_s3_l4, i_s4_l4) => loopN (r14_trains_L4 p0_0) m (n_s3_l4, i_s4_l4) = some d4 ∧ Ev [] w w' ∧ MS w' [[b2], M] ∧ FR w.heap.size [[b2]] ∧ SlR (eProd (eInt .i64) (eProd (eInt .i64) (eProd (eInt .i64) (eInt .i64)))) w' (fl [[b2], M]) a_p0_0 c_p0_0 p0_0 ∧ w'.heap[b2]? = some (.cells #[.slice a_p0_0 (p0_0).length c_p0_0, .int .i64 p0_1] 27 (0, 0))) (fun s => s.1) (m4, 0, 0) ⟨rfl, rfl, rfl, trivial⟩ ⟨hd4, hev, hms, hfr, hs_p0_0, hb2⟩ ?_)
  rintro ⟨m4, n_s3_l4, i_s4_l4⟩ J wl4 ⟨hn4, hev, hms, hfr, hs_p0_0, hb2⟩
  rcases m4 with _ | m4
  · exact (loopN_zero hn4).elim
  obtain ⟨t4, h, hn4⟩ := bind_some hn4
  refine c_seq ?_
  refine c_seq (c_plain ?_)
  refine x_pure 1 [(5, .int .i64 i_s4_l4)] _ _ _ (by kernel_rfl) ?_
  refine x_fieldAddr (xv := .pointer (some ⟨b2, 0, none⟩)) (.pointer (some ⟨b2, 0, none⟩)) rfl rfl rfl (reads_field tfld27_0 _ _) ?_
  refine x_load (xv := .pointer (some ⟨b2, 0, none⟩)) (.slice a_p0_0 (p0_0).length c_p0_0) rfl rfl rfl (reads_box tcell25 hb2 nn 0 _ rfl) ?_
  refine x_len (vs := [.slice a_p0_0 (p0_0).length c_p0_0]) (.int .i64 ((p0_0).length : Int)) rfl rfl rfl (reads_len tsl25 _ _ _ _ _) ?_
  refine x_pure 1 [(9, .bool (decide (i_s4_l4 < ((p0_0).length : Int))))] _ _ _ (by kernel_rfl) ?_
  refine x_end rfl (k_then ?_)
  refine c_norm [(1, .pointer (some ⟨b2, 0, none⟩)), (3, .int .i64 n_s3_l4), (4, .int .i64 i_s4_l4), (9, .bool (decide (i_s4_l4 < ((p0_0).length : Int))))] ⟨rfl, rfl, rfl, rfl, trivial⟩ (fun J => ?_)
  refine c_cond (decide (i_s4_l4 < ((p0_0).length : Int))) rfl (fun hb => ?_) (fun hb => ?_)
  · replace h := ite_t hb h
    refine c_skip ?_
    refine k_then ?_
    refine c_seq ?_
    refine c_block ?_
    refine c_plain ?_
    refine x_pure 1 [(12, .int .i64 n_s3_l4)] _ _ _ (by kernel_rfl) ?_
    refine x_fieldAddr (xv := .pointer (some ⟨b2, 0, none⟩)) (.pointer (some ⟨b2, 0, none⟩)) rfl rfl rfl (reads_field tfld27_0 _ _) ?_
    refine x_load (xv := .pointer (some ⟨b2, 0, none⟩)) (.slice a_p0_0 (p0_0).length c_p0_0) rfl rfl rfl (reads_box tcell25 hb2 nn 0 _ rfl) ?_
    refine x_pure 1 [(15, .int .i64 i_s4_l4)] _ _ _ (by kernel_rfl) ?_
    obtain ⟨x6, hx6, h⟩ := bind_some h
    obtain ⟨ad6, cs6, hr6, hc6, hR⟩ := reads_index (Mo := []) tsl25 hs_p0_0 hx6
    obtain ⟨_, _, rfl, rfl, ⟨_, _, rfl, rfl, ⟨_, _, rfl, rfl, rfl⟩⟩⟩ := hR
    refine x_indexAddr (xv := .slice a_p0_0 (p0_0).length c_p0_0) (yv := .int .i64 i_s4_l4) (.pointer (some ad6)) rfl rfl rfl rfl hr6 ?_
    refine x_fieldAddr (xv := .pointer (some ad6)) (.pointer (some (Addr.add ad6 0))) rfl rfl rfl (reads_field tfld39_0 _ _) ?_
    refine x_load (xv := .pointer (some (Addr.add ad6 0))) (.int .i64 x6.1) rfl rfl rfl (reads_cell tcell3 hc6 (fun _ h => by cases h) 0 _ rfl) ?_
    refine x_pure 1 [(19, .int .i64 (IntKind.i64.wrap (x6.1 + 1)))] _ _ _ (by kernel_rfl) ?_
    refine x_max (vs := [.int .i64 n_s3_l4, .int .i64 (IntKind.i64.wrap (x6.1 + 1))]) (.int .i64 (if (IntKind.i64.wrap (x6.1 + 1)) > n_s3_l4 then (IntKind.i64.wrap (x6.1 + 1)) else n_s3_l4)) rfl rfl rfl (fun _ _ => rfl) ?_
    refine x_pure 1 [(3, .int .i64 (if (IntKind.i64.wrap (x6.1 + 1)) > n_s3_l4 then (IntKind.i64.wrap (x6.1 + 1)) else n_s3_l4))] _ _ _ (by kernel_rfl) ?_
    refine x_end rfl ?_
    refine k_block ?_
    refine k_then ?_
    refine c_plain ?_
    refine x_pure 3 [(10, .int .i64 i_s4_l4), (11, .int .i64 (IntKind.i64.wrap (i_s4_l4 + 1))), (4, .int .i64 (IntKind.i64.wrap (i_s4_l4 + 1)))] _ _ _ (by kernel_rfl) ?_
    refine x_end rfl ?_
    have hx := some_inj h
    subst hx
    exact k_then ⟨(m4, if (IntKind.i64.wrap (x6.1 + 1)) > n_s3_l4 then (IntKind.i64.wrap (x6.1 + 1)) else n_s3_l4, IntKind.i64.wrap (i_s4_l4 + 1)), ⟨rfl, rfl, rfl, trivial⟩, ⟨hn4, hev, hms, hfr, hs_p0_0, hb2⟩, Nat.lt_succ_self _⟩
  replace h := ite_f hb h
  refine c_exit ?_
  refine k_then_exit ?_
  have hx := some_inj h
  subst hx
  have hy := some_inj hn4
  subst hy
  replace h := h4
  refine k_then_exit ?_
  refine k_block_in ?_
  refine k_then ?_
  refine c_norm [(3, .int .i64 n_s3_l4)] ⟨rfl, trivial⟩ (fun J => ?_)
  refine c_seq (c_plain ?_)
  refine x_pure 2 [(21, .int .i64 n_s3_l4), (2, .int .i64 n_s3_l4)] _ _ _ (by kernel_rfl) ?_
  refine x_end rfl (k_then ?_)
  refine c_ret ?_
  refine r_ret (r_vals [.int .i64 n_s3_l4] ⟨rfl, trivial⟩ ?_)
  have hx := some_inj h
  subst hx
  have hmr : MS wl4 [M] := hms.pick [some 1] _ rfl
  have hsu : ∀ x ∈ fl [M], x ∈ fl [[b2], M] := pick_sub [some 1] _ rfl
  exact ⟨rfl, hev⟩
def r14_Yard_push_L12 (p0_0 : List (List Int)) (p2_0 : Int) (p2_1 : List Int) (p3 : Int) (s : Int) : Option (Step Int ((List (List Int)) ⊕ Unit)) :=
match s with
| b_s10_l12 =>
(if (decide (b_s10_l12 < p2_0)) = true then
((idx p2_1 p3).bind fun x14 =>
(if 0 ≤ b_s10_l12 then
(if ((IntKind.i64.wrap ↑(BitVec.ofInt IntKind.i64.bits (Int.fdiv x14 (2 ^ (min (Int.toNat (b_s10_l12)) IntKind.i64.bits))) &&& BitVec.ofInt IntKind.i64.bits 1).toNat) == 1) = true then
((idx p0_0 b_s10_l12).bind fun x16 =>
(if x16.length + ([p3]).length ≤ 4294967296 then
((idx p0_0 b_s10_l12).bind fun x23 =>
some (.done (.inl (p0_0.set (Int.toNat b_s10_l12) (x16 ++ [p3])))))
else none))
else
some (.next (IntKind.i64.wrap (b_s10_l12 + 1))))
else none))
else
some (.done (.inr ())))

def r14_Yard_push (p0_0 : List (List Int)) (p0_1 : List (List Int)) (p0_2 : Int) (p0_3 : Int) (p1_0 : List (Int × Int × Int × Int)) (p1_1 : Int) (p2_0 : Int) (p2_1 : List Int) (p3 : Int) (p4 : Int) : Option (Int × (List (List Int)) × (List (List Int))) :=
((loop (r14_Yard_push_L12 p0_0 p2_0 p2_1 p3) p4).bind fun d => match d with
| (.inl d1_x1200) => some (IntKind.i64.wrap (p0_2 + 1), d1_x1200, p0_1)
| (.inr _) => ((idx p1_0 p3).bind fun x26 =>
((idx p0_1 x26.1).bind fun x28 =>
(if x28.length + ([p3]).length ≤ 4294967296 then
((idx p0_1 x26.1).bind fun x35 =>
some (IntKind.i64.wrap (p0_2 + 1), p0_0, (p0_1.set (Int.toNat x26.1) (x28 ++ [p3]))))
else none))))

theorem r14_Yard_push_w (b_p0 : Nat) (a_p0_0 : Option Addr) (c_p0_0 : Nat) (B_p0_0 : List Nat) (p0_0 : List (List Int)) (a_p0_1 : Option Addr) (c_p0_1 : Nat) (B_p0_1 : List Nat) (p0_1 : List (List Int)) (p0_2 : Int) (p0_3 : Int) (a_p1_0 : Option Addr) (c_p1_0 : Nat) (p1_0 : List (Int × Int × Int × Int)) (p1_1 : Int) (p2_0 : Int) (a_p2_1 : Option Addr) (c_p2_1 : Nat) (p2_1 : List Int) (p3 : Int) (p4 : Int) (r : Int × (List (List Int)) × (List (List Int))) (w : World) (M : List Nat) (hms : MS w [[b_p0], B_p0_0, B_p0_1, M]) (hs_p0_0 : OwnR (eInt .i64) 3 22 w B_p0_0 a_p0_0 c_p0_0 p0_0 none) (hs_p0_1 : OwnR (eInt .i64) 3 22 w B_p0_1 a_p0_1 c_p0_1 p0_1 none) (hb_p0 : w.heap[b_p0]? = some (.cells #[.slice a_p0_0 (p0_0).length c_p0_0, .slice a_p0_1 (p0_1).length c_p0_1, .int .i64 p0_2, .int .i64 p0_3] 85 (0, 0))) (hs_p1_0 : SlR (eProd (eInt .i64) (eProd (eInt .i64) (eProd (eInt .i64) (eInt .i64)))) w (fl [[b_p0], B_p0_0, B_p0_1, M]) a_p1_0 c_p1_0 p1_0) (hs_p2_1 : SlR (eInt .i64) w (fl [[b_p0], B_p0_0, B_p0_1, M]) a_p2_1 c_p2_1 p2_1) (h : r14_Yard_push p0_0 p0_1 p0_2 p0_3 p1_0 p1_1 p2_0 p2_1 p3 p4 = some r) : CallVC Try.prog 61 [.pointer (some ⟨b_p0, 0, none⟩), .agg #[.slice a_p1_0 (p1_0).length c_p1_0, .int .i64 p1_1], .agg #[.int .i64 p2_0, .slice a_p2_1 (p2_1).length c_p2_1], .int .i64 p3, .int .i64 p4] w fun v w' => ∃ (a0' : Option Addr), ∃ (c0' : Nat), ∃ (B2' : List Nat), ∃ (a3' : Option Addr), ∃ (c3' : Nat), ∃ (B5' : List Nat), v = .tuple #[] ∧ Ev (fl [[b_p0], B_p0_0, B_p0_1]) w w' ∧ w'.heap[b_p0]? = some (.cells #[.slice a0' (r.2.1).length c0', .slice a3' (r.2.2).length c3', .int .i64 r.1, .int .i64 p0_3] 85 (0, 0)) ∧ OwnR (eInt .i64) 3 22 w' B2' a0' c0' r.2.1 none ∧ OwnR (eInt .i64) 3 22 w' B5' a3' c3' r.2.2 none ∧ MS w' [[b_p0], B2', B5', M] ∧ FR w.heap.size [] ∧ NP (fl [[b_p0], B_p0_0, B_p0_1]) w.heap.size [[b_p0], B2', B5'] := by
  refine calls_vc hmx Try.func61 (by kernel_rfl) rfl (rs := []) rfl (by kernel_rfl) (args := [.pointer (some ⟨b_p0, 0, none⟩), .agg #[.slice a_p1_0 (p1_0).length c_p1_0, .int .i64 p1_1], .agg #[.int .i64 p2_0, .slice a_p2_1 (p2_1).length c_p2_1], .int .i64 p3, .int .i64 p4]) rfl ?_
  have hev : Ev (fl [[b_p0], B_p0_0, B_p0_1]) w w := Ev.refl _ _
  have hfr : FR w.heap.size [] := FR.nil _
  have hpr : NP (fl [[b_p0], B_p0_0, B_p0_1]) w.heap.size [[b_p0], B_p0_0, B_p0_1] := NP.init _ _
  refine c_seq (c_plain ?_)
  refine x_box (xv := .agg #[.slice a_p1_0 (p1_0).length c_p1_0, .int .i64 p1_1]) rfl rfl rfl (fun b6 w6 hq6 hb6 he6 _ => ?_)
  replace hb6 : w6.heap[b6]? = some (.cells #[.slice a_p1_0 (p1_0).length c_p1_0, .int .i64 p1_1] 27 (0, 0)) := hb6
  refine ⟨.inl rfl, ?_⟩
  have hst := Stp.box (ls := [[b_p0], B_p0_0, B_p0_1, M]) he6 hq6
  replace hs_p0_0 := hs_p0_0.step (plain_int _) he6 nn2
  replace hs_p0_1 := hs_p0_1.step (plain_int _) he6 nn2
  replace hb_p0 := he6.box hb_p0 nn
  replace hs_p1_0 := hs_p1_0.step hst
  replace hs_p2_1 := hs_p2_1.step hst
  replace hms := hms.box he6 hq6 hb6
  replace hfr := hfr.box hev.size hq6
  replace hev := hev.ext he6
  refine x_box (xv := .agg #[.int .i64 p2_0, .slice a_p2_1 (p2_1).length c_p2_1]) rfl rfl rfl (fun b8 w8 hq8 hb8 he8 _ => ?_)
  replace hb8 : w8.heap[b8]? = some (.cells #[.int .i64 p2_0, .slice a_p2_1 (p2_1).length c_p2_1] 30 (0, 0)) := hb8
  refine ⟨.inl rfl, ?_⟩
  have hst := Stp.box (ls := [[b6], [b_p0], B_p0_0, B_p0_1, M]) he8 hq8
  replace hs_p0_0 := hs_p0_0.step (plain_int _) he8 nn2
  replace hs_p0_1 := hs_p0_1.step (plain_int _) he8 nn2
  replace hb_p0 := he8.box hb_p0 nn
  replace hs_p1_0 := hs_p1_0.step hst
  replace hs_p2_1 := hs_p2_1.step hst
  replace hb6 := he8.box hb6 nn
  replace hms := hms.box he8 hq8 hb8
  replace hfr := hfr.box hev.size hq8
  replace hev := hev.ext he8
  refine x_end rfl (k_then ?_)
  refine c_seq (c_plain ?_)
  refine x_pure 2 [(12, .pointer (some ⟨b_p0, 0, none⟩)), (13, .pointer (some ⟨b_p0, 0, none⟩))] _ _ _ (by kernel_rfl) ?_
  refine x_fieldAddr (xv := .pointer (some ⟨b_p0, 0, none⟩)) (.pointer (some ⟨b_p0, 2, none⟩)) rfl rfl rfl (reads_field tfld85_2 _ _) ?_
  refine x_load (xv := .pointer (some ⟨b_p0, 2, none⟩)) (.int .i64 p0_2) rfl rfl rfl (reads_box tcell3 hb_p0 nn 2 _ rfl) ?_
  refine x_pure 2 [(16, .int .i64 (IntKind.i64.wrap (p0_2 + 1))), (17, .pointer (some ⟨b_p0, 0, none⟩))] _ _ _ (by kernel_rfl) ?_
  refine x_fieldAddr (xv := .pointer (some ⟨b_p0, 0, none⟩)) (.pointer (some ⟨b_p0, 2, none⟩)) rfl rfl rfl (reads_field tfld85_2 _ _) ?_
  obtain ⟨w10, hr10, hb10, he10⟩ := store_box 2 (.int .i64 (IntKind.i64.wrap (p0_2 + 1))) #[.slice a_p0_0 (p0_0).length c_p0_0, .slice a_p0_1 (p0_1).length c_p0_1, .int .i64 (IntKind.i64.wrap (p0_2 + 1)), .int .i64 p0_3] tcell3 hb_p0 rfl rfl rfl
  refine x_store w10 (xv := .pointer (some ⟨b_p0, 2, none⟩)) (yv := .int .i64 (IntKind.i64.wrap (p0_2 + 1))) rfl rfl rfl rfl hr10 ?_
  refine ⟨.inl rfl, ?_⟩
  have hst := Stp.ev' (ls := [[b8], [b6], [b_p0], B_p0_0, B_p0_1, M]) he10 (mem_flat 2 rfl)
  replace hs_p0_0 := hs_p0_0.step (plain_int _) he10 (hms.apart 3 2 rfl rfl rfl)
  replace hs_p0_1 := hs_p0_1.step (plain_int _) he10 (hms.apart 4 2 rfl rfl rfl)
  replace hs_p1_0 := hs_p1_0.step hst
  replace hs_p2_1 := hs_p2_1.step hst
  replace hb6 := he10.box hb6 (hms.apart 1 2 rfl rfl rfl _ (List.mem_singleton.2 rfl))
  replace hb8 := he10.box hb8 (hms.apart 0 2 rfl rfl rfl _ (List.mem_singleton.2 rfl))
  replace hms := hms.ev he10
  replace hev := hev.then he10 (hpr.at 0 rfl)
  replace hb_p0 := hb10
  refine x_end rfl (k_then ?_)
  refine c_seq ?_
  refine c_seq (c_plain ?_)
  refine x_pure 2 [(19, .int .i64 p4), (10, .int .i64 p4)] _ _ _ (by kernel_rfl) ?_
  refine x_end rfl (k_then ?_)
  refine c_block ?_
  have hpk : MS w10 [[b6], [b8], [b_p0], B_p0_0, B_p0_1, M] := hms.pick [some 1, some 0, some 2, some 3, some 4, some 5] _ rfl
  have hsu : ∀ x ∈ fl [[b6], [b8], [b_p0], B_p0_0, B_p0_1, M], x ∈ fl [[b8], [b6], [b_p0], B_p0_0, B_p0_1, M] := pick_sub [some 1, some 0, some 2, some 3, some 4, some 5] _ rfl
  replace hs_p1_0 := hs_p1_0.sub hsu
  replace hs_p2_1 := hs_p2_1.sub hsu
  replace hms := hpk
  replace hfr : FR w.heap.size [[b6], [b8]] := hfr.pick [some 1, some 0] _ rfl
  clear hpk hsu
  obtain ⟨d12, hd12, h12⟩ := bind_some h
  obtain ⟨m12, hd12⟩ := loop_some hd12
  refine c_loop (loop_rule hmx (σ := Nat × Int) (fun s => match s with | (_, b_s10_l12) => [(0, .pointer (some ⟨b_p0, 0, none⟩)), (3, .int .i64 p3), (6, .pointer (some ⟨b6, 0, none⟩)), (7, .pointer (some ⟨b8, 0, none⟩)), (10, .int .i64 b_s10_l12)]) (fun s w' => match s with | (m, b_s10_l12) => loopN (r14_Yard_push_L12 p0_0 p2_0 p2_1 p3) m b_s10_l12 = some d12 ∧ Ev (fl [[b_p0], B_p0_0, B_p0_1]) w w' ∧ MS w' [[b6], [b8], [b_p0], B_p0_0, B_p0_1, M] ∧ FR w.heap.size [[b6], [b8]] ∧ NP (fl [[b_p0], B_p0_0, B_p0_1]) w.heap.size [[b_p0], B_p0_0, B_p0_1] ∧ OwnR (eInt .i64) 3 22 w' B_p0_0 a_p0_0 c_p0_0 p0_0 none ∧ OwnR (eInt .i64) 3 22 w' B_p0_1 a_p0_1 c_p0_1 p0_1 none ∧ w'.heap[b_p0]? = some (.cells #[.slice a_p0_0 (p0_0).length c_p0_0, .slice a_p0_1 (p0_1).length c_p0_1, .int .i64 (IntKind.i64.wrap (p0_2 + 1)), .int .i64 p0_3] 85 (0, 0)) ∧ SlR (eProd (eInt .i64) (eProd (eInt .i64) (eProd (eInt .i64) (eInt .i64)))) w' (fl [[b6], [b8], [b_p0], B_p0_0, B_p0_1, M]) a_p1_0 c_p1_0 p1_0 ∧ w'.heap[b6]? = some (.cells #[.slice a_p1_0 (p1_0).length c_p1_0, .int .i64 p1_1] 27 (0, 0)) ∧ SlR (eInt .i64) w' (fl [[b6], [b8], [b_p0], B_p0_0, B_p0_1, M]) a_p2_1 c_p2_1 p2_1 ∧ w'.heap[b8]? = some (.cells #[.int .i64 p2_0, .slice a_p2_1 (p2_1).length c_p2_1] 30 (0, 0))) (fun s => s.1) (m12, p4) ⟨rfl, rfl, rfl, rfl, rfl, trivial⟩ ⟨hd12, hev, hms, hfr, hpr, hs_p0_0, hs_p0_1, hb_p0, hs_p1_0, hb6, hs_p2_1, hb8⟩ ?_)
  rintro ⟨m12, b_s10_l12⟩ J wl12 ⟨hn12, hev, hms, hfr, hpr, hs_p0_0, hs_p0_1, hb_p0, hs_p1_0, hb6, hs_p2_1, hb8⟩
  rcases m12 with _ | m12
  · exact (loopN_zero hn12).elim
  obtain ⟨t12, h, hn12⟩ := bind_some hn12
  refine c_seq ?_
  refine c_seq (c_plain ?_)
  refine x_pure 1 [(20, .int .i64 b_s10_l12)] _ _ _ (by kernel_rfl) ?_
  refine x_fieldAddr (xv := .pointer (some ⟨b8, 0, none⟩)) (.pointer (some ⟨b8, 0, none⟩)) rfl rfl rfl (reads_field tfld30_0 _ _) ?_
  refine x_load (xv := .pointer (some ⟨b8, 0, none⟩)) (.int .i64 p2_0) rfl rfl rfl (reads_box tcell3 hb8 nn 0 _ rfl) ?_
  refine x_pure 1 [(23, .bool (decide (b_s10_l12 < p2_0)))] _ _ _ (by kernel_rfl) ?_
  refine x_end rfl (k_then ?_)
  refine c_norm [(0, .pointer (some ⟨b_p0, 0, none⟩)), (3, .int .i64 p3), (6, .pointer (some ⟨b6, 0, none⟩)), (7, .pointer (some ⟨b8, 0, none⟩)), (10, .int .i64 b_s10_l12), (23, .bool (decide (b_s10_l12 < p2_0)))] ⟨rfl, rfl, rfl, rfl, rfl, rfl, trivial⟩ (fun J => ?_)
  refine c_cond (decide (b_s10_l12 < p2_0)) rfl (fun hb => ?_) (fun hb => ?_)
  · replace h := ite_t hb h
    refine c_skip ?_
    refine k_then ?_
    refine c_seq ?_
    refine c_block ?_
    refine c_seq (c_plain ?_)
    refine x_fieldAddr (xv := .pointer (some ⟨b8, 0, none⟩)) (.pointer (some ⟨b8, 1, none⟩)) rfl rfl rfl (reads_field tfld30_1 _ _) ?_
    refine x_load (xv := .pointer (some ⟨b8, 1, none⟩)) (.slice a_p2_1 (p2_1).length c_p2_1) rfl rfl rfl (reads_box tcell22 hb8 nn 1 _ rfl) ?_
    refine x_pure 1 [(28, .int .i64 p3)] _ _ _ (by kernel_rfl) ?_
    obtain ⟨x14, hx14, h⟩ := bind_some h
    obtain ⟨ad14, cs14, hr14, hc14, hR⟩ := reads_index (Mo := []) tsl22 hs_p2_1 hx14
    obtain rfl := hR
    refine x_indexAddr (xv := .slice a_p2_1 (p2_1).length c_p2_1) (yv := .int .i64 p3) (.pointer (some ad14)) rfl rfl rfl rfl hr14 ?_
    refine x_load (xv := .pointer (some ad14)) (.int .i64 x14) rfl rfl rfl (reads_cell0 tcell3 hc14 (fun _ h => by cases h)) ?_
    refine x_pure 1 [(31, .int .i64 b_s10_l12)] _ _ _ (by kernel_rfl) ?_
    refine x_binop (.int .i64 (Int.fdiv x14 (2 ^ (min (Int.toNat (b_s10_l12)) IntKind.i64.bits)))) (.int .i64 x14) (.int .i64 b_s10_l12) rfl rfl rfl rfl (vb_shr (guard_l h)) ?_
    replace h := guard_r h
    refine x_pure 2 [(33, .int .i64 (IntKind.i64.wrap ↑(BitVec.ofInt IntKind.i64.bits (Int.fdiv x14 (2 ^ (min (Int.toNat (b_s10_l12)) IntKind.i64.bits))) &&& BitVec.ofInt IntKind.i64.bits 1).toNat)), (34, .bool ((IntKind.i64.wrap ↑(BitVec.ofInt IntKind.i64.bits (Int.fdiv x14 (2 ^ (min (Int.toNat (b_s10_l12)) IntKind.i64.bits))) &&& BitVec.ofInt IntKind.i64.bits 1).toNat) == 1))] _ _ _ (by kernel_rfl) ?_
    refine x_end rfl (k_then ?_)
    refine c_cond ((IntKind.i64.wrap ↑(BitVec.ofInt IntKind.i64.bits (Int.fdiv x14 (2 ^ (min (Int.toNat (b_s10_l12)) IntKind.i64.bits))) &&& BitVec.ofInt IntKind.i64.bits 1).toNat) == 1) rfl (fun hb => ?_) (fun hb => ?_)
    · replace h := ite_t hb h
      refine c_seq ?_
      refine c_drawn (innr a_p0_0 B_p0_0) [(0, false), (1, false), (2, false), (3, false), (4, false), (5, false), (6, false), (7, false), (8, false), (9, false), (10, false), (11, false), (12, false), (13, false), (14, false), (15, false), (16, true)] _ (by kernel_rfl) rfl ?_
      have hst := Stp.ext (ls := [[b6], [b8], [b_p0], B_p0_0, B_p0_1, M]) (Ev.drew wl12)
      replace hb_p0 := (Ev.drew wl12).box hb_p0 nn
      replace hs_p0_0 := hs_p0_0.step (plain_int _) (Ev.drew wl12) nn2
      replace hs_p0_1 := hs_p0_1.step (plain_int _) (Ev.drew wl12) nn2
      replace hb6 := (Ev.drew wl12).box hb6 nn
      replace hs_p1_0 := hs_p1_0.step hst
      replace hb8 := (Ev.drew wl12).box hb8 nn
      replace hs_p2_1 := hs_p2_1.step hst
      replace hms := hms.ev (Ev.drew wl12)
      replace hev := hev.ext (Ev.drew wl12)
      refine x_pure 2 [(35, .pointer (some ⟨b_p0, 0, none⟩)), (36, .pointer (some ⟨b_p0, 0, none⟩))] _ _ _ (by kernel_rfl) ?_
      refine x_fieldAddr (xv := .pointer (some ⟨b_p0, 0, none⟩)) (.pointer (some ⟨b_p0, 0, none⟩)) rfl rfl rfl (reads_field tfld85_0 _ _) ?_
      refine x_load (xv := .pointer (some ⟨b_p0, 0, none⟩)) (.slice a_p0_0 (p0_0).length c_p0_0) rfl rfl rfl (reads_box tcell32 hb_p0 ((fun x hx h => hms.apart 2 3 rfl rfl rfl x hx (innr_sub _ h)) _ (List.mem_singleton.2 rfl)) 0 _ rfl) ?_
      refine x_pure 3 [(39, .int .i64 b_s10_l12), (40, .pointer (some ⟨b_p0, 0, none⟩)), (41, .pointer (some ⟨b_p0, 0, none⟩))] _ _ _ (by kernel_rfl) ?_
      refine x_fieldAddr (xv := .pointer (some ⟨b_p0, 0, none⟩)) (.pointer (some ⟨b_p0, 0, none⟩)) rfl rfl rfl (reads_field tfld85_0 _ _) ?_
      refine x_load (xv := .pointer (some ⟨b_p0, 0, none⟩)) (.slice a_p0_0 (p0_0).length c_p0_0) rfl rfl rfl (reads_box tcell32 hb_p0 ((fun x hx h => hms.apart 2 3 rfl rfl rfl x hx (innr_sub _ h)) _ (List.mem_singleton.2 rfl)) 0 _ rfl) ?_
      refine x_pure 1 [(44, .int .i64 b_s10_l12)] _ _ _ (by kernel_rfl) ?_
      obtain ⟨x16, hx16, h⟩ := bind_some h
      obtain ⟨g16, ai16, ci16, hr16, hv16⟩ := OwnR.view (P := Try.prog) (Mo := (innr a_p0_0 B_p0_0)) tsl32 hs_p0_0 hx16
      refine x_indexAddr (xv := .slice a_p0_0 (p0_0).length c_p0_0) (yv := .int .i64 b_s10_l12) (.pointer (some ⟨g16, (Int.toNat b_s10_l12), none⟩)) rfl rfl rfl rfl hr16 ?_
      refine x_load (xv := .pointer (some ⟨g16, (Int.toNat b_s10_l12), none⟩)) (.slice ai16 (x16).length ci16) rfl rfl rfl (RView.loadI tcell22 hv16) ?_
      refine x_pure 1 [(47, .int .i64 p3)] _ _ _ (by kernel_rfl) ?_
      refine x_buildSlice (vs := [(0, .int .i64 p3)]) #[.int .i64 p3] 3 rfl rfl rfl (by kernel_rfl) (fun b18 w18 hq18 hb18 he18 hz18 => ?_)
      refine ⟨.inr (he18.nil), ?_⟩
      have hms0 := hms
      have hst := Stp.ext (ls := [[b6], [b8], [b_p0], B_p0_0, B_p0_1, M]) he18
      replace hb_p0 := he18.box hb_p0 nn
      replace hs_p0_0 := hs_p0_0.step (plain_int _) he18 nn2
      replace hs_p0_1 := hs_p0_1.step (plain_int _) he18 nn2
      replace hb6 := he18.box hb6 nn
      replace hs_p1_0 := hs_p1_0.step hst
      replace hb8 := he18.box hb8 nn
      replace hs_p2_1 := hs_p2_1.step hst
      replace hv16 := hv16.step (plain_int _) he18 nn2
      replace hms := hms.ev he18
      replace hev := hev.ext he18
      have hs18 : SlR (eInt .i64) w18 (fl [[b6], [b8], [b_p0], B_p0_0, B_p0_1, M]) (some ⟨b18, 0, none⟩) 1 ([p3]) := ro_of_box hms0 hq18 hb18 rfl rfl (cells_at (cs := [.int .i64 p3]) (CellsOf.cons (c := [.int .i64 p3]) rfl CellsOf.nil))
      clear hb18 hms0
      have hin20 := RView.inner hv16 hs_p0_0
      obtain ⟨B20, hR20, ho20, hs1, hs2, hs3⟩ := OwnR.opn hs_p0_0 hv16
      replace hs_p0_0 := hR20
      have hms2 := hms.split 3 rfl hs2 hs1 hs3
      have hsu : ∀ x ∈ fl [[b6], [b8], blk ai16, [b_p0], B20, B_p0_1, M], x ∈ fl [[b6], [b8], [b_p0], B_p0_0, B_p0_1, M] := fun x hx => split_sub (ls := [[b6], [b8], [b_p0], B_p0_0, B_p0_1, M]) 3 rfl hs2 hs1 x (pick_sub [some 1, some 2, some 0, some 3, some 4, some 5, some 6] _ rfl x hx)
      replace hms : MS w18 [[b6], [b8], blk ai16, [b_p0], B20, B_p0_1, M] := hms2.pick [some 1, some 2, some 0, some 3, some 4, some 5, some 6] _ rfl
      replace hpr : NP (fl [[b_p0], B_p0_0, B_p0_1]) w.heap.size [blk ai16, [b_p0], B20, B_p0_1] := (NP.cons (fun b hb => hpr.at 1 rfl b (hs2 b hb)) (NP.cons (hpr.at 0 rfl) (NP.cons (fun b hb => hpr.at 1 rfl b (hs1 b hb)) (NP.cons (hpr.at 2 rfl) (NP.nil _ _)))))
      replace hs_p1_0 := hs_p1_0.sub hsu
      replace hs_p2_1 := hs_p2_1.sub hsu
      replace hs18 := hs18.sub hsu
      replace ho20 := OwnS.plain (M' := fl [[b6], [b8], blk ai16, [b_p0], B20, B_p0_1, M]) (plain_int _) ho20
      have hg20 := hv16.eq
      have hx20 := hv16.at_
      clear hv16 hms2 hs1 hs2 hs3 hsu
      have hg := guard_l h
      replace h := guard_r h
      obtain ⟨a22, c22, w22, hr22, he22, hn22, hm22, hw22⟩ := own_appendN tel22 22 ho20 (mem_flat 2 rfl) hs18 hg
      refine x_builtin (vs := [.slice ai16 (x16).length ci16, .slice (some ⟨b18, 0, none⟩) ([p3]).length 1]) _ w22 rfl rfl rfl rfl (run_value _ _ _ _ hr22) ?_
      refine ⟨.inr (he22.sub hin20), ?_⟩
      have hst : Stp (fl [[b6], [b8], blk ai16, [b_p0], B20, B_p0_1, M]) w18 (fl [[b6], [b8], blk a22, [b_p0], B20, B_p0_1, M]) w22 := Stp.upd 2 he22 rfl (fun b hb => (hn22 b hb).1)
      replace hb_p0 := he22.box hb_p0 (hms.apart 3 2 rfl rfl rfl _ (List.mem_singleton.2 rfl))
      replace hs_p0_0 := hs_p0_0.step (plain_int _) he22 (hms.apart 4 2 rfl rfl rfl)
      replace hs_p0_1 := hs_p0_1.step (plain_int _) he22 (hms.apart 5 2 rfl rfl rfl)
      replace hb6 := he22.box hb6 (hms.apart 0 2 rfl rfl rfl _ (List.mem_singleton.2 rfl))
      replace hs_p1_0 := hs_p1_0.step hst
      replace hb8 := he22.box hb8 (hms.apart 1 2 rfl rfl rfl _ (List.mem_singleton.2 rfl))
      replace hs_p2_1 := hs_p2_1.step hst
      replace hs18 := hs18.step hst
      replace hms : MS w22 [[b6], [b8], blk a22, [b_p0], B20, B_p0_1, M] := hms.upd 2 he22 rfl hn22
      have hpr2 : NP (fl [[b_p0], B_p0_0, B_p0_1]) w.heap.size [blk a22, [b_p0], B20, B_p0_1] := (NP.cons (fun b hb => (hn22 b hb).1.elim (fun h => hpr.at 0 rfl b h) (fun h => .inr (Nat.le_trans hev.size h))) (NP.cons (hpr.at 1 rfl) (NP.cons (hpr.at 2 rfl) (NP.cons (hpr.at 3 rfl) (NP.nil _ _)))))
      replace hev := hev.then he22 (hpr.at 0 rfl)
      replace hpr := hpr2
      clear hpr2
      replace ho20 := hw22 (fl [[b6], [b8], blk a22, [b_p0], B20, B_p0_1, M]) hst.new
      clear hw22
      obtain ⟨x23, hx23, h⟩ := bind_some h
      obtain ⟨g23, hg23, hr23, hy23⟩ := OwnR.addr (P := Try.prog) (Mo := (innr a_p0_0 B_p0_0)) tsl32 hs_p0_0 hx23
      refine x_indexAddr (xv := .slice a_p0_0 (p0_0).length c_p0_0) (yv := .int .i64 b_s10_l12) (.pointer (some ⟨g23, (Int.toNat b_s10_l12), none⟩)) rfl rfl rfl rfl hr23 ?_
      obtain ⟨w25, B25, hr25, he25, hn25, hR25⟩ := OwnR.cls (P := Try.prog) (plain_int _) tcell22 hs_p0_0 hg23 hy23 ho20 (hms.apart 2 4 rfl rfl rfl) (hms.ltat 4 rfl)
      refine x_store w25 (xv := .pointer (some ⟨g23, (Int.toNat b_s10_l12), none⟩)) (yv := .slice a22 ((x16 ++ [p3])).length c22) rfl rfl rfl rfl hr25 ?_
      refine ⟨.inl rfl, ?_⟩
      have hms2 := hms.merge (C := blk a22 ++ B20) 2 4 rfl rfl (fun x hx => List.mem_append.1 hx)
      replace hpr : NP (fl [[b_p0], B_p0_0, B_p0_1]) w.heap.size [[b_p0], blk a22 ++ B20, B_p0_1] := (NP.cons (hpr.at 1 rfl) (NP.cons (fun b hb => (List.mem_append.1 hb).elim (fun h => hpr.at 0 rfl b h) (hpr.at 2 rfl b)) (NP.cons (hpr.at 3 rfl) (NP.nil _ _))))
      have hsu : ∀ x ∈ fl [[b6], [b8], [b_p0], blk a22 ++ B20, B_p0_1, M], x ∈ fl [[b6], [b8], blk a22, [b_p0], B20, B_p0_1, M] := merge_sub (ls := [[b6], [b8], blk a22, [b_p0], B20, B_p0_1, M]) (C := blk a22 ++ B20) 2 4 rfl rfl (fun x hx => List.mem_append.1 hx)
      replace hms : MS w22 [[b6], [b8], [b_p0], blk a22 ++ B20, B_p0_1, M] := hms2
      replace hs_p1_0 := hs_p1_0.sub hsu
      replace hs_p2_1 := hs_p2_1.sub hsu
      replace hs18 := hs18.sub hsu
      clear hms2 hsu
      have hst : Stp (fl [[b6], [b8], [b_p0], blk a22 ++ B20, B_p0_1, M]) w22 (fl [[b6], [b8], [b_p0], B25, B_p0_1, M]) w25 := Stp.upd 3 he25 rfl (fun b hb => (hn25 b hb).1)
      replace hb_p0 := he25.box hb_p0 (hms.apart 2 3 rfl rfl rfl _ (List.mem_singleton.2 rfl))
      replace hs_p0_1 := hs_p0_1.step (plain_int _) he25 (hms.apart 4 3 rfl rfl rfl)
      replace hb6 := he25.box hb6 (hms.apart 0 3 rfl rfl rfl _ (List.mem_singleton.2 rfl))
      replace hs_p1_0 := hs_p1_0.step hst
      replace hb8 := he25.box hb8 (hms.apart 1 3 rfl rfl rfl _ (List.mem_singleton.2 rfl))
      replace hs_p2_1 := hs_p2_1.step hst
      replace hs18 := hs18.step hst
      replace hms : MS w25 [[b6], [b8], [b_p0], B25, B_p0_1, M] := hms.upd 3 he25 rfl hn25
      have hpr2 : NP (fl [[b_p0], B_p0_0, B_p0_1]) w.heap.size [[b_p0], B25, B_p0_1] := (NP.cons (hpr.at 0 rfl) (NP.cons (fun b hb => (hn25 b hb).1.elim (fun h => hpr.at 1 rfl b h) (fun h => .inr (Nat.le_trans hev.size h))) (NP.cons (hpr.at 2 rfl) (NP.nil _ _))))
      replace hev := hev.then he25 (hpr.at 1 rfl)
      replace hpr := hpr2
      clear hpr2
      replace hs_p0_0 := hR25
      have hsl : (Value.slice a_p0_0 (p0_0).length c_p0_0) = (Value.slice a_p0_0 ((p0_0.set (Int.toNat b_s10_l12) (x16 ++ [p3]))).length c_p0_0) := by rw [List.length_set]
      rw [hsl] at hb_p0
      try rw [hsl]
      clear hsl
      refine x_end rfl (k_then ?_)
      refine c_norm [] trivial (fun J => ?_)
      refine c_ret ?_
      refine k_block_ret ?_
      refine k_then_ret ?_
      have hx := some_inj h
      subst hx
      have hy := some_inj hn12
      subst hy
      replace h := h12
      refine k_then_ret ?_
      refine k_block_ret ?_
      refine k_then_ret ?_
      refine r_ret (r_vals [] trivial ?_)
      have hx := some_inj h
      subst hx
      have hmr : MS w25 [[b_p0], B25, B_p0_1, M] := hms.pick [some 2, some 3, some 4, some 5] _ rfl
      have hsu : ∀ x ∈ fl [[b_p0], B25, B_p0_1, M], x ∈ fl [[b6], [b8], [b_p0], B25, B_p0_1, M] := pick_sub [some 2, some 3, some 4, some 5] _ rfl
      have hfe : FR w.heap.size [] := hfr.pick [] _ rfl
      exact ⟨a_p0_0, c_p0_0, B25, a_p0_1, c_p0_1, B_p0_1, rfl, hev, hb_p0, hs_p0_0, hs_p0_1, hmr, hfe, (NP.cons (hpr.at 0 rfl) (NP.cons (hpr.at 1 rfl) (NP.cons (hpr.at 2 rfl) (NP.nil _ _))))⟩
    replace h := ite_f hb h
    refine c_skip ?_
    refine k_block ?_
    refine k_then ?_
    refine c_plain ?_
    refine x_pure 3 [(24, .int .i64 b_s10_l12), (25, .int .i64 (IntKind.i64.wrap (b_s10_l12 + 1))), (10, .int .i64 (IntKind.i64.wrap (b_s10_l12 + 1)))] _ _ _ (by kernel_rfl) ?_
    refine x_end rfl ?_
    have hx := some_inj h
    subst hx
    exact k_then ⟨(m12, IntKind.i64.wrap (b_s10_l12 + 1)), ⟨rfl, rfl, rfl, rfl, rfl, trivial⟩, ⟨hn12, hev, hms, hfr, hpr, hs_p0_0, hs_p0_1, hb_p0, hs_p1_0, hb6, hs_p2_1, hb8⟩, Nat.lt_succ_self _⟩
  replace h := ite_f hb h
  refine c_exit ?_
  refine k_then_exit ?_
  have hx := some_inj h
  subst hx
  have hy := some_inj hn12
  subst hy
  replace h := h12
  refine k_then_exit ?_
  refine k_block_in ?_
  refine k_then ?_
  refine c_norm [(0, .pointer (some ⟨b_p0, 0, none⟩)), (3, .int .i64 p3), (6, .pointer (some ⟨b6, 0, none⟩))] ⟨rfl, rfl, rfl, trivial⟩ (fun J => ?_)
  refine c_seq (c_plain ?_)
  refine x_fieldAddr (xv := .pointer (some ⟨b6, 0, none⟩)) (.pointer (some ⟨b6, 0, none⟩)) rfl rfl rfl (reads_field tfld27_0 _ _) ?_
  refine x_load (xv := .pointer (some ⟨b6, 0, none⟩)) (.slice a_p1_0 (p1_0).length c_p1_0) rfl rfl rfl (reads_box tcell25 hb6 nn 0 _ rfl) ?_
  refine x_pure 1 [(53, .int .i64 p3)] _ _ _ (by kernel_rfl) ?_
  obtain ⟨x26, hx26, h⟩ := bind_some h
  obtain ⟨ad26, cs26, hr26, hc26, hR⟩ := reads_index (Mo := []) tsl25 hs_p1_0 hx26
  obtain ⟨_, _, rfl, rfl, ⟨_, _, rfl, rfl, ⟨_, _, rfl, rfl, rfl⟩⟩⟩ := hR
  refine x_indexAddr (xv := .slice a_p1_0 (p1_0).length c_p1_0) (yv := .int .i64 p3) (.pointer (some ad26)) rfl rfl rfl rfl hr26 ?_
  refine x_fieldAddr (xv := .pointer (some ad26)) (.pointer (some (Addr.add ad26 0))) rfl rfl rfl (reads_field tfld39_0 _ _) ?_
  refine x_load (xv := .pointer (some (Addr.add ad26 0))) (.int .i64 x26.1) rfl rfl rfl (reads_cell tcell3 hc26 (fun _ h => by cases h) 0 _ rfl) ?_
  refine x_pure 1 [(11, .int .i64 x26.1)] _ _ _ (by kernel_rfl) ?_
  refine x_end rfl (k_then ?_)
  refine c_drawn (innr a_p0_1 B_p0_1) [(0, false), (1, false), (2, false), (3, false), (4, false), (5, false), (6, false), (7, false), (8, false), (9, false), (10, false), (11, false), (12, false), (13, false), (14, false), (15, false), (16, true)] _ (by kernel_rfl) rfl ?_
  have hst := Stp.ext (ls := [[b6], [b8], [b_p0], B_p0_0, B_p0_1, M]) (Ev.drew wl12)
  replace hb_p0 := (Ev.drew wl12).box hb_p0 nn
  replace hs_p0_0 := hs_p0_0.step (plain_int _) (Ev.drew wl12) nn2
  replace hs_p0_1 := hs_p0_1.step (plain_int _) (Ev.drew wl12) nn2
  replace hb6 := (Ev.drew wl12).box hb6 nn
  replace hs_p1_0 := hs_p1_0.step hst
  replace hb8 := (Ev.drew wl12).box hb8 nn
  replace hs_p2_1 := hs_p2_1.step hst
  replace hms := hms.ev (Ev.drew wl12)
  replace hev := hev.ext (Ev.drew wl12)
  refine x_pure 2 [(57, .pointer (some ⟨b_p0, 0, none⟩)), (58, .pointer (some ⟨b_p0, 0, none⟩))] _ _ _ (by kernel_rfl) ?_
  refine x_fieldAddr (xv := .pointer (some ⟨b_p0, 0, none⟩)) (.pointer (some ⟨b_p0, 1, none⟩)) rfl rfl rfl (reads_field tfld85_1 _ _) ?_
  refine x_load (xv := .pointer (some ⟨b_p0, 1, none⟩)) (.slice a_p0_1 (p0_1).length c_p0_1) rfl rfl rfl (reads_box tcell32 hb_p0 ((fun x hx h => hms.apart 2 4 rfl rfl rfl x hx (innr_sub _ h)) _ (List.mem_singleton.2 rfl)) 1 _ rfl) ?_
  refine x_pure 3 [(61, .int .i64 x26.1), (62, .pointer (some ⟨b_p0, 0, none⟩)), (63, .pointer (some ⟨b_p0, 0, none⟩))] _ _ _ (by kernel_rfl) ?_
  refine x_fieldAddr (xv := .pointer (some ⟨b_p0, 0, none⟩)) (.pointer (some ⟨b_p0, 1, none⟩)) rfl rfl rfl (reads_field tfld85_1 _ _) ?_
  refine x_load (xv := .pointer (some ⟨b_p0, 1, none⟩)) (.slice a_p0_1 (p0_1).length c_p0_1) rfl rfl rfl (reads_box tcell32 hb_p0 ((fun x hx h => hms.apart 2 4 rfl rfl rfl x hx (innr_sub _ h)) _ (List.mem_singleton.2 rfl)) 1 _ rfl) ?_
  refine x_pure 1 [(66, .int .i64 x26.1)] _ _ _ (by kernel_rfl) ?_
  obtain ⟨x28, hx28, h⟩ := bind_some h
  obtain ⟨g28, ai28, ci28, hr28, hv28⟩ := OwnR.view (P := Try.prog) (Mo := (innr a_p0_1 B_p0_1)) tsl32 hs_p0_1 hx28
  refine x_indexAddr (xv := .slice a_p0_1 (p0_1).length c_p0_1) (yv := .int .i64 x26.1) (.pointer (some ⟨g28, (Int.toNat x26.1), none⟩)) rfl rfl rfl rfl hr28 ?_
  refine x_load (xv := .pointer (some ⟨g28, (Int.toNat x26.1), none⟩)) (.slice ai28 (x28).length ci28) rfl rfl rfl (RView.loadI tcell22 hv28) ?_
  refine x_pure 1 [(69, .int .i64 p3)] _ _ _ (by kernel_rfl) ?_
  refine x_buildSlice (vs := [(0, .int .i64 p3)]) #[.int .i64 p3] 3 rfl rfl rfl (by kernel_rfl) (fun b30 w30 hq30 hb30 he30 hz30 => ?_)
  refine ⟨.inr (he30.nil), ?_⟩
  have hms0 := hms
  have hst := Stp.ext (ls := [[b6], [b8], [b_p0], B_p0_0, B_p0_1, M]) he30
  replace hb_p0 := he30.box hb_p0 nn
  replace hs_p0_0 := hs_p0_0.step (plain_int _) he30 nn2
  replace hs_p0_1 := hs_p0_1.step (plain_int _) he30 nn2
  replace hb6 := he30.box hb6 nn
  replace hs_p1_0 := hs_p1_0.step hst
  replace hb8 := he30.box hb8 nn
  replace hs_p2_1 := hs_p2_1.step hst
  replace hv28 := hv28.step (plain_int _) he30 nn2
  replace hms := hms.ev he30
  replace hev := hev.ext he30
  have hs30 : SlR (eInt .i64) w30 (fl [[b6], [b8], [b_p0], B_p0_0, B_p0_1, M]) (some ⟨b30, 0, none⟩) 1 ([p3]) := ro_of_box hms0 hq30 hb30 rfl rfl (cells_at (cs := [.int .i64 p3]) (CellsOf.cons (c := [.int .i64 p3]) rfl CellsOf.nil))
  clear hb30 hms0
  have hin32 := RView.inner hv28 hs_p0_1
  obtain ⟨B32, hR32, ho32, hs1, hs2, hs3⟩ := OwnR.opn hs_p0_1 hv28
  replace hs_p0_1 := hR32
  have hms2 := hms.split 4 rfl hs2 hs1 hs3
  have hsu : ∀ x ∈ fl [[b6], [b8], blk ai28, [b_p0], B_p0_0, B32, M], x ∈ fl [[b6], [b8], [b_p0], B_p0_0, B_p0_1, M] := fun x hx => split_sub (ls := [[b6], [b8], [b_p0], B_p0_0, B_p0_1, M]) 4 rfl hs2 hs1 x (pick_sub [some 1, some 2, some 0, some 3, some 4, some 5, some 6] _ rfl x hx)
  replace hms : MS w30 [[b6], [b8], blk ai28, [b_p0], B_p0_0, B32, M] := hms2.pick [some 1, some 2, some 0, some 3, some 4, some 5, some 6] _ rfl
  replace hpr : NP (fl [[b_p0], B_p0_0, B_p0_1]) w.heap.size [blk ai28, [b_p0], B_p0_0, B32] := (NP.cons (fun b hb => hpr.at 2 rfl b (hs2 b hb)) (NP.cons (hpr.at 0 rfl) (NP.cons (hpr.at 1 rfl) (NP.cons (fun b hb => hpr.at 2 rfl b (hs1 b hb)) (NP.nil _ _)))))
  replace hs_p1_0 := hs_p1_0.sub hsu
  replace hs_p2_1 := hs_p2_1.sub hsu
  replace hs30 := hs30.sub hsu
  replace ho32 := OwnS.plain (M' := fl [[b6], [b8], blk ai28, [b_p0], B_p0_0, B32, M]) (plain_int _) ho32
  have hg32 := hv28.eq
  have hx32 := hv28.at_
  clear hv28 hms2 hs1 hs2 hs3 hsu
  have hg := guard_l h
  replace h := guard_r h
  obtain ⟨a34, c34, w34, hr34, he34, hn34, hm34, hw34⟩ := own_appendN tel22 22 ho32 (mem_flat 2 rfl) hs30 hg
  refine x_builtin (vs := [.slice ai28 (x28).length ci28, .slice (some ⟨b30, 0, none⟩) ([p3]).length 1]) _ w34 rfl rfl rfl rfl (run_value _ _ _ _ hr34) ?_
  refine ⟨.inr (he34.sub hin32), ?_⟩
  have hst : Stp (fl [[b6], [b8], blk ai28, [b_p0], B_p0_0, B32, M]) w30 (fl [[b6], [b8], blk a34, [b_p0], B_p0_0, B32, M]) w34 := Stp.upd 2 he34 rfl (fun b hb => (hn34 b hb).1)
  replace hb_p0 := he34.box hb_p0 (hms.apart 3 2 rfl rfl rfl _ (List.mem_singleton.2 rfl))
  replace hs_p0_0 := hs_p0_0.step (plain_int _) he34 (hms.apart 4 2 rfl rfl rfl)
  replace hs_p0_1 := hs_p0_1.step (plain_int _) he34 (hms.apart 5 2 rfl rfl rfl)
  replace hb6 := he34.box hb6 (hms.apart 0 2 rfl rfl rfl _ (List.mem_singleton.2 rfl))
  replace hs_p1_0 := hs_p1_0.step hst
  replace hb8 := he34.box hb8 (hms.apart 1 2 rfl rfl rfl _ (List.mem_singleton.2 rfl))
  replace hs_p2_1 := hs_p2_1.step hst
  replace hs30 := hs30.step hst
  replace hms : MS w34 [[b6], [b8], blk a34, [b_p0], B_p0_0, B32, M] := hms.upd 2 he34 rfl hn34
  have hpr2 : NP (fl [[b_p0], B_p0_0, B_p0_1]) w.heap.size [blk a34, [b_p0], B_p0_0, B32] := (NP.cons (fun b hb => (hn34 b hb).1.elim (fun h => hpr.at 0 rfl b h) (fun h => .inr (Nat.le_trans hev.size h))) (NP.cons (hpr.at 1 rfl) (NP.cons (hpr.at 2 rfl) (NP.cons (hpr.at 3 rfl) (NP.nil _ _)))))
  replace hev := hev.then he34 (hpr.at 0 rfl)
  replace hpr := hpr2
  clear hpr2
  replace ho32 := hw34 (fl [[b6], [b8], blk a34, [b_p0], B_p0_0, B32, M]) hst.new
  clear hw34
  obtain ⟨x35, hx35, h⟩ := bind_some h
  obtain ⟨g35, hg35, hr35, hy35⟩ := OwnR.addr (P := Try.prog) (Mo := (innr a_p0_1 B_p0_1)) tsl32 hs_p0_1 hx35
  refine x_indexAddr (xv := .slice a_p0_1 (p0_1).length c_p0_1) (yv := .int .i64 x26.1) (.pointer (some ⟨g35, (Int.toNat x26.1), none⟩)) rfl rfl rfl rfl hr35 ?_
  obtain ⟨w37, B37, hr37, he37, hn37, hR37⟩ := OwnR.cls (P := Try.prog) (plain_int _) tcell22 hs_p0_1 hg35 hy35 ho32 (hms.apart 2 5 rfl rfl rfl) (hms.ltat 5 rfl)
  refine x_store w37 (xv := .pointer (some ⟨g35, (Int.toNat x26.1), none⟩)) (yv := .slice a34 ((x28 ++ [p3])).length c34) rfl rfl rfl rfl hr37 ?_
  refine ⟨.inl rfl, ?_⟩
  have hms2 := hms.merge (C := blk a34 ++ B32) 2 5 rfl rfl (fun x hx => List.mem_append.1 hx)
  replace hpr : NP (fl [[b_p0], B_p0_0, B_p0_1]) w.heap.size [[b_p0], B_p0_0, blk a34 ++ B32] := (NP.cons (hpr.at 1 rfl) (NP.cons (hpr.at 2 rfl) (NP.cons (fun b hb => (List.mem_append.1 hb).elim (fun h => hpr.at 0 rfl b h) (hpr.at 3 rfl b)) (NP.nil _ _))))
  have hsu : ∀ x ∈ fl [[b6], [b8], [b_p0], B_p0_0, blk a34 ++ B32, M], x ∈ fl [[b6], [b8], blk a34, [b_p0], B_p0_0, B32, M] := merge_sub (ls := [[b6], [b8], blk a34, [b_p0], B_p0_0, B32, M]) (C := blk a34 ++ B32) 2 5 rfl rfl (fun x hx => List.mem_append.1 hx)
  replace hms : MS w34 [[b6], [b8], [b_p0], B_p0_0, blk a34 ++ B32, M] := hms2
  replace hs_p1_0 := hs_p1_0.sub hsu
  replace hs_p2_1 := hs_p2_1.sub hsu
  replace hs30 := hs30.sub hsu
  clear hms2 hsu
  have hst : Stp (fl [[b6], [b8], [b_p0], B_p0_0, blk a34 ++ B32, M]) w34 (fl [[b6], [b8], [b_p0], B_p0_0, B37, M]) w37 := Stp.upd 4 he37 rfl (fun b hb => (hn37 b hb).1)
  replace hb_p0 := he37.box hb_p0 (hms.apart 2 4 rfl rfl rfl _ (List.mem_singleton.2 rfl))
  replace hs_p0_0 := hs_p0_0.step (plain_int _) he37 (hms.apart 3 4 rfl rfl rfl)
  replace hb6 := he37.box hb6 (hms.apart 0 4 rfl rfl rfl _ (List.mem_singleton.2 rfl))
  replace hs_p1_0 := hs_p1_0.step hst
  replace hb8 := he37.box hb8 (hms.apart 1 4 rfl rfl rfl _ (List.mem_singleton.2 rfl))
  replace hs_p2_1 := hs_p2_1.step hst
  replace hs30 := hs30.step hst
  replace hms : MS w37 [[b6], [b8], [b_p0], B_p0_0, B37, M] := hms.upd 4 he37 rfl hn37
  have hpr2 : NP (fl [[b_p0], B_p0_0, B_p0_1]) w.heap.size [[b_p0], B_p0_0, B37] := (NP.cons (hpr.at 0 rfl) (NP.cons (hpr.at 1 rfl) (NP.cons (fun b hb => (hn37 b hb).1.elim (fun h => hpr.at 2 rfl b h) (fun h => .inr (Nat.le_trans hev.size h))) (NP.nil _ _))))
  replace hev := hev.then he37 (hpr.at 2 rfl)
  replace hpr := hpr2
  clear hpr2
  replace hs_p0_1 := hR37
  have hsl : (Value.slice a_p0_1 (p0_1).length c_p0_1) = (Value.slice a_p0_1 ((p0_1.set (Int.toNat x26.1) (x28 ++ [p3]))).length c_p0_1) := by rw [List.length_set]
  rw [hsl] at hb_p0
  try rw [hsl]
  clear hsl
  refine x_end rfl ?_
  refine r_normal (r_vals [] trivial ?_)
  have hx := some_inj h
  subst hx
  have hmr : MS w37 [[b_p0], B_p0_0, B37, M] := hms.pick [some 2, some 3, some 4, some 5] _ rfl
  have hsu : ∀ x ∈ fl [[b_p0], B_p0_0, B37, M], x ∈ fl [[b6], [b8], [b_p0], B_p0_0, B37, M] := pick_sub [some 2, some 3, some 4, some 5] _ rfl
  have hfe : FR w.heap.size [] := hfr.pick [] _ rfl
  exact ⟨a_p0_0, c_p0_0, B_p0_0, a_p0_1, c_p0_1, B37, rfl, hev, hb_p0, hs_p0_0, hs_p0_1, hmr, hfe, (NP.cons (hpr.at 0 rfl) (NP.cons (hpr.at 1 rfl) (NP.cons (hpr.at 2 rfl) (NP.nil _ _))))⟩
def r14_At_L27 (p0_0 : List (Int × Int × Int × Int)) (p0_1 : Int) (p1_0 : Int) (p1_1 : List Int) (e17_l10_3 : Int) (i_s8_l10 : Int) (s : (List (List Int)) × (List (List Int)) × Int × Int) : Option (Step ((List (List Int)) × (List (List Int)) × Int × Int) ((List (List Int)) × (List (List Int)) × Int)) :=
match s with
| (d11_l27, d15_l27, e17_l27_2, x_s12_l27) =>
(if (decide (x_s12_l27 < ((p0_0).length : Int))) = true then
((idx p0_0 x_s12_l27).bind fun x29 =>
(if (x29.2.2.1 == i_s8_l10) = true then
((r14_Yard_push d11_l27 d15_l27 e17_l27_2 e17_l10_3 p0_0 p0_1 p1_0 p1_1 x_s12_l27 i_s8_l10).bind fun x31 =>
some (.next (x31.2.1, x31.2.2, x31.1, IntKind.i64.wrap (x_s12_l27 + 1))))
else
some (.next (d11_l27, d15_l27, e17_l27_2, IntKind.i64.wrap (x_s12_l27 + 1)))))
else
some (.done (d11_l27, d15_l27, e17_l27_2)))

def r14_At_J12 (p0_0 : List (Int × Int × Int × Int)) (p0_1 : Int) (p1_0 : Int) (p1_1 : List Int) (e17_l10_2 : Int) (e17_l10_3 : Int) (i_s8_l10 : Int) (d11_j12 : List (List Int)) (d15_j12 : List (List Int)) (e17_j12_2 : Int) : Option (Step ((List (List Int)) × (List (List Int)) × Int × Int × Int) ((List (List Int)) × (List (List Int)) × Int × Int)) :=
((loop (r14_At_L27 p0_0 p0_1 p1_0 p1_1 e17_l10_3 i_s8_l10) (d11_j12, d15_j12, e17_j12_2, 0)).bind fun d => match d with
| (d11_x27, d15_x27, e17_x27_2) => (if (decide (e17_x27_2 > e17_l10_2)) = true then
some (.next (d11_x27, d15_x27, e17_x27_2, IntKind.i64.wrap (e17_l10_3 + 1), IntKind.i64.wrap (i_s8_l10 + 1)))
else
some (.next (d11_x27, d15_x27, e17_x27_2, e17_l10_3, IntKind.i64.wrap (i_s8_l10 + 1)))))

def r14_At_L20 (p0_0 : List (Int × Int × Int × Int)) (p0_1 : Int) (p1_0 : Int) (p1_1 : List Int) (e17_l10_3 : Int) (i_s8_l10 : Int) (x13 : List Int) (s : (List (List Int)) × (List (List Int)) × Int × Int) : Option (Step ((List (List Int)) × (List (List Int)) × Int × Int) ((List (List Int)) × (List (List Int)) × Int)) :=
match s with
| (d11_l20, d15_l20, e17_l20_2, k_s11_l20) =>
(if (decide (k_s11_l20 < ((x13).length : Int))) = true then
((idx x13 k_s11_l20).bind fun x22 =>
((r14_Yard_push d11_l20 d15_l20 e17_l20_2 e17_l10_3 p0_0 p0_1 p1_0 p1_1 x22 i_s8_l10).bind fun x24 =>
some (.next (x24.2.1, x24.2.2, x24.1, IntKind.i64.wrap (k_s11_l20 + 1)))))
else
some (.done (d11_l20, d15_l20, e17_l20_2)))

def r14_At_L10 (p0_0 : List (Int × Int × Int × Int)) (p0_1 : Int) (p1_0 : Int) (p1_1 : List Int) (p2 : Int) (s : (List (List Int)) × (List (List Int)) × Int × Int × Int) : Option (Step ((List (List Int)) × (List (List Int)) × Int × Int × Int) ((List (List Int)) × (List (List Int)) × Int × Int)) :=
match s with
| (d11_l10, d15_l10, e17_l10_2, e17_l10_3, i_s8_l10) =>
(if (decide (i_s8_l10 ≤ p2)) = true then
(if (decide (i_s8_l10 > 0)) = true then
((idx d11_l10 (IntKind.i64.wrap (i_s8_l10 - 1))).bind fun x13 =>
((idx d11_l10 (IntKind.i64.wrap (i_s8_l10 - 1))).bind fun x15 =>
((loop (r14_At_L20 p0_0 p0_1 p1_0 p1_1 e17_l10_3 i_s8_l10 x13) ((d11_l10.set (Int.toNat (IntKind.i64.wrap (i_s8_l10 - 1))) ([] : List Int)), d15_l10, e17_l10_2, 0)).bind fun d => match d with
| (d11_x20, d15_x20, e17_x20_2) => r14_At_J12 p0_0 p0_1 p1_0 p1_1 e17_l10_2 e17_l10_3 i_s8_l10 d11_x20 d15_x20 e17_x20_2)))
else
r14_At_J12 p0_0 p0_1 p1_0 p1_1 e17_l10_2 e17_l10_3 i_s8_l10 d11_l10 d15_l10 e17_l10_2)
else
some (.done (d11_l10, d15_l10, e17_l10_2, e17_l10_3)))

def r14_At_J9 (p0_0 : List (Int × Int × Int × Int)) (p0_1 : Int) (p1_0 : Int) (p1_1 : List Int) (p2 : Int) (d15_j9 : List (List Int)) : Option ((List (List Int)) × (List (List Int)) × Int × Int) :=
((loop (r14_At_L10 p0_0 p0_1 p1_0 p1_1 p2) ((List.replicate (Int.toNat p1_0) ([] : List Int)), d15_j9, 0, 0, 0)).bind fun d => match d with
| (d11_x10, d15_x10, e17_x10_2, e17_x10_3) => some (d11_x10, d15_x10, e17_x10_2, e17_x10_3))

def r14_At (p0_0 : List (Int × Int × Int × Int)) (p0_1 : Int) (p1_0 : Int) (p1_1 : List Int) (p2 : Int) : Option ((List (List Int)) × (List (List Int)) × Int × Int) :=
(if 0 ≤ p1_0 ∧ p1_0 ≤ 4294967296 then
((r14_trains p0_0 p0_1).bind fun x12 =>
(if 0 ≤ x12 ∧ x12 ≤ 4294967296 then
r14_At_J9 p0_0 p0_1 p1_0 p1_1 p2 (List.replicate (Int.toNat x12) ([] : List Int))
else none))
else none)

theorem r14_At_w (a_p0_0 : Option Addr) (c_p0_0 : Nat) (p0_0 : List (Int × Int × Int × Int)) (p0_1 : Int) (p1_0 : Int) (a_p1_1 : Option Addr) (c_p1_1 : Nat) (p1_1 : List Int) (p2 : Int) (r : ((List (List Int)) × (List (List Int)) × Int × Int)) (w : World) (M : List Nat) (hms : MS w [M]) (hs_p0_0 : SlR (eProd (eInt .i64) (eProd (eInt .i64) (eProd (eInt .i64) (eInt .i64)))) w (fl [M]) a_p0_0 c_p0_0 p0_0) (hs_p1_1 : SlR (eInt .i64) w (fl [M]) a_p1_1 c_p1_1 p1_1) (h : r14_At p0_0 p0_1 p1_0 p1_1 p2 = some r) : CallVC Try.prog 50 [.agg #[.slice a_p0_0 (p0_0).length c_p0_0, .int .i64 p0_1], .agg #[.int .i64 p1_0, .slice a_p1_1 (p1_1).length c_p1_1], .int .i64 p2] w fun v w' => ∃ (a0' : Option Addr), ∃ (c0' : Nat), ∃ (B2' : List Nat), ∃ (a3' : Option Addr), ∃ (c3' : Nat), ∃ (B5' : List Nat), v = .agg #[.slice a0' (r.1).length c0', .slice a3' (r.2.1).length c3', .int .i64 r.2.2.1, .int .i64 r.2.2.2] ∧ Ev [] w w' ∧ MS w' [B2', B5', M] ∧ FR w.heap.size [B2', B5'] ∧ OwnR (eInt .i64) 3 22 w' B2' a0' c0' r.1 none ∧ OwnR (eInt .i64) 3 22 w' B5' a3' c3' r.2.1 none := by
  refine calls_vc hmx Try.func50 (by kernel_rfl) rfl (rs := [.cell 6 85]) rfl (by kernel_rfl) (args := [.agg #[.slice a_p0_0 (p0_0).length c_p0_0, .int .i64 p0_1], .agg #[.int .i64 p1_0, .slice a_p1_1 (p1_1).length c_p1_1], .int .i64 p2]) rfl ?_
  have hev : Ev [] w w := Ev.refl _ _
  have hfr : FR w.heap.size [] := FR.nil _
  refine c_seq (c_plain ?_)
  refine x_box (xv := .agg #[.slice a_p0_0 (p0_0).length c_p0_0, .int .i64 p0_1]) rfl rfl rfl (fun b3 w3 hq3 hb3 he3 _ => ?_)
  replace hb3 : w3.heap[b3]? = some (.cells #[.slice a_p0_0 (p0_0).length c_p0_0, .int .i64 p0_1] 27 (0, 0)) := hb3
  refine ⟨.inl rfl, ?_⟩
  have hst := Stp.box (ls := [M]) he3 hq3
  replace hs_p0_0 := hs_p0_0.step hst
  replace hs_p1_1 := hs_p1_1.step hst
  replace hms := hms.box he3 hq3 hb3
  replace hfr := hfr.box hev.size hq3
  replace hev := hev.ext he3
  refine x_box (xv := .agg #[.int .i64 p1_0, .slice a_p1_1 (p1_1).length c_p1_1]) rfl rfl rfl (fun b5 w5 hq5 hb5 he5 _ => ?_)
  replace hb5 : w5.heap[b5]? = some (.cells #[.int .i64 p1_0, .slice a_p1_1 (p1_1).length c_p1_1] 30 (0, 0)) := hb5
  refine ⟨.inl rfl, ?_⟩
  have hst := Stp.box (ls := [[b3], M]) he5 hq5
  replace hs_p0_0 := hs_p0_0.step hst
  replace hs_p1_1 := hs_p1_1.step hst
  replace hb3 := he5.box hb3 nn
  replace hms := hms.box he5 hq5 hb5
  replace hfr := hfr.box hev.size hq5
  replace hev := hev.ext he5
  refine x_alloc (z := .agg #[.slice none 0 0, .slice none 0 0, .int .i64 0, .int .i64 0]) rfl rfl (by kernel_rfl) (fun b7 w7 hq7 hb7 he7 _ => ?_)
  replace hb7 : w7.heap[b7]? = some (.cells #[.slice none 0 0, .slice none 0 0, .int .i64 0, .int .i64 0] 85 (0, 0)) := hb7
  refine ⟨.inl rfl, ?_⟩
  have hst := Stp.box (ls := [[b5], [b3], M]) he7 hq7
  replace hs_p0_0 := hs_p0_0.step hst
  replace hs_p1_1 := hs_p1_1.step hst
  replace hb3 := he7.box hb3 nn
  replace hb5 := he7.box hb5 nn
  replace hms := hms.box he7 hq7 hb7
  replace hfr := hfr.box hev.size hq7
  replace hev := hev.ext he7
  refine x_end rfl (k_then ?_)
  refine c_join (σ := (List (List Int)) × Nat × Option Addr × Nat × List Nat × Option Addr × Nat × List Nat) (fun s => match s with | (d15_j9, b17_j9, a11_j9, c11_j9, B11_j9, a15_j9, c15_j9, B15_j9) => [(2, .int .i64 p2), (3, .pointer (some ⟨b3, 0, none⟩)), (4, .pointer (some ⟨b5, 0, none⟩)), (6, .pointer (some ⟨b7, 0, none⟩)), (7, .pointer (some ⟨b17_j9, 0, none⟩))]) (fun s w' => match s with | (d15_j9, b17_j9, a11_j9, c11_j9, B11_j9, a15_j9, c15_j9, B15_j9) => r14_At_J9 p0_0 p0_1 p1_0 p1_1 p2 d15_j9 = some r ∧ Ev [] w w' ∧ MS w' [[b3], [b5], [b7], B11_j9, B15_j9, [b17_j9], M] ∧ FR w.heap.size [[b3], [b5], [b7], B11_j9, B15_j9, [b17_j9]] ∧ SlR (eProd (eInt .i64) (eProd (eInt .i64) (eProd (eInt .i64) (eInt .i64)))) w' (fl [[b3], [b5], [b7], B11_j9, B15_j9, [b17_j9], M]) a_p0_0 c_p0_0 p0_0 ∧ w'.heap[b3]? = some (.cells #[.slice a_p0_0 (p0_0).length c_p0_0, .int .i64 p0_1] 27 (0, 0)) ∧ SlR (eInt .i64) w' (fl [[b3], [b5], [b7], B11_j9, B15_j9, [b17_j9], M]) a_p1_1 c_p1_1 p1_1 ∧ w'.heap[b5]? = some (.cells #[.int .i64 p1_0, .slice a_p1_1 (p1_1).length c_p1_1] 30 (0, 0)) ∧ w'.heap[b7]? = some (.cells #[.slice none 0 0, .slice none 0 0, .int .i64 0, .int .i64 0] 85 (0, 0)) ∧ OwnR (eInt .i64) 3 22 w' B11_j9 a11_j9 c11_j9 (List.replicate (Int.toNat p1_0) ([] : List Int)) none ∧ OwnR (eInt .i64) 3 22 w' B15_j9 a15_j9 c15_j9 d15_j9 none ∧ w'.heap[b17_j9]? = some (.cells #[.slice a11_j9 ((List.replicate (Int.toNat p1_0) ([] : List Int))).length c11_j9, .slice a15_j9 (d15_j9).length c15_j9, .int .i64 0, .int .i64 0] 85 (0, 0))) ?_ ?_
  · refine c_drawnp [] [(0, false), (1, false), (3, false)] (.alt 2 false (opsThen [] (.alt 4 false (opsThen [] (.alt 5 false (opsThen [(6, false), (7, false), (8, true)] .stop) (.alt 7 false (opsThen [(5, false), (6, false), (8, true)] .stop) .none_))) (.alt 7 false (opsThen [(4, false), (5, false), (6, false), (8, true)] .stop) .none_))) (.alt 4 false (opsThen [] (.alt 2 false (opsThen [] (.alt 5 false (opsThen [(6, false), (7, false), (8, true)] .stop) (.alt 7 false (opsThen [(5, false), (6, false), (8, true)] .stop) .none_))) (.alt 5 false (opsThen [] (.alt 2 false (opsThen [(6, false), (7, false), (8, true)] .stop) (.alt 7 false (opsThen [(2, false), (6, false), (8, true)] .stop) .none_))) (.alt 7 false (opsThen [] (.alt 2 false (opsThen [(5, false), (6, false), (8, true)] .stop) (.alt 5 false (opsThen [(2, false), (6, false), (8, true)] .stop) .none_))) .none_)))) (.alt 7 false (opsThen [] (.alt 2 false (opsThen [(4, false), (5, false), (6, false), (8, true)] .stop) (.alt 4 false (opsThen [] (.alt 2 false (opsThen [(5, false), (6, false), (8, true)] .stop) (.alt 5 false (opsThen [(2, false), (6, false), (8, true)] .stop) .none_))) .none_))) .none_))) _ (by kernel_rfl) rfl ?_
    have hst := Stp.ext (ls := [[b7], [b5], [b3], M]) (Ev.drew w7)
    replace hs_p0_0 := hs_p0_0.step hst
    replace hs_p1_1 := hs_p1_1.step hst
    replace hb3 := (Ev.drew w7).box hb3 nn
    replace hb5 := (Ev.drew w7).box hb5 nn
    replace hb7 := (Ev.drew w7).box hb7 nn
    replace hms := hms.ev (Ev.drew w7)
    replace hev := hev.ext (Ev.drew w7)
    refine x_fieldAddr (xv := .pointer (some ⟨b5, 0, none⟩)) (.pointer (some ⟨b5, 0, none⟩)) rfl rfl rfl (reads_field tfld30_0 _ _) ?_
    refine x_load (xv := .pointer (some ⟨b5, 0, none⟩)) (.int .i64 p1_0) rfl rfl rfl (reads_box tcell3 hb5 nn 0 _ rfl) ?_
    refine x_load (xv := .pointer (some ⟨b3, 0, none⟩)) (.agg #[.slice a_p0_0 (p0_0).length c_p0_0, .int .i64 p0_1]) rfl rfl rfl (reads_boxagg 0 [.slice a_p0_0 (p0_0).length c_p0_0, .int .i64 p0_1] tagg27 hb3 nn rfl) ?_
    refine x_end rfl ?_
    refine t_alt _ rfl ?_ ?_
    · have hg := guard_l h
      replace h := guard_r h
      obtain ⟨a10, c10, w10, B10, hr10, he10, hn10, ho10⟩ := OwnR.mk (P := Try.prog) (T := 3) (eInt .i64) tel32 (w7).drew p1_0 hg.1 hg.2
      refine x_makeSlice _ w10 (xv := .int .i64 p1_0) (yv := .int .i64 p1_0) rfl rfl rfl rfl hr10 ?_
      refine ⟨.inr he10, ?_⟩
      have hst := Stp.push (ls := [[b7], [b5], [b3], M]) (l := B10) he10 (fun _ h => by cases h) (fun b hb => (hn10 b hb).1)
      replace hs_p0_0 := hs_p0_0.step hst
      replace hs_p1_1 := hs_p1_1.step hst
      replace hb3 := he10.box hb3 nn
      replace hb5 := he10.box hb5 nn
      replace hb7 := he10.box hb7 nn
      replace hms := hms.push he10 hn10
      replace hfr := hfr.push (fun b hb => Nat.le_trans hev.size (hn10 b hb).1)
      replace hev := hev.ext he10
      refine x_end rfl ?_
      refine t_alt _ rfl ?_ ?_
      · obtain ⟨x12, hx, h⟩ := bind_some h
        have hpk : MS w10 ([] ++ [B10, [b7], [b5], [b3], M]) := hms.pick [some 0, some 1, some 2, some 3, some 4] _ rfl
        have hsb0 : ∀ x ∈ fl ([] ++ [B10, [b7], [b5], [b3], M]), x ∈ fl [B10, [b7], [b5], [b3], M] := pick_sub [some 0, some 1, some 2, some 3, some 4] _ rfl
        have hsb : ∀ x ∈ fl ([] ++ [(fl [B10, [b7], [b5], [b3], M])]), x ∈ fl [B10, [b7], [b5], [b3], M] := fun x hx => hsb0 x (fl_unfold x hx)
        have hcall := r14_trains_w a_p0_0 c_p0_0 p0_0 p0_1 _ w10 (fl [B10, [b7], [b5], [b3], M]) (MS.fold (P := []) hpk) (hs_p0_0.sub hsb) hx
        refine x_call 52 #[] #[] [.agg #[.slice a_p0_0 (p0_0).length c_p0_0, .int .i64 p0_1]] _ rfl rfl rfl rfl hcall ?_
        rintro v w13 ⟨rfl, he13⟩
        clear hcall hx
        refine ⟨.inr he13, ?_⟩
        have hst := Stp.ext (ls := [B10, [b7], [b5], [b3], M]) he13
        replace hs_p0_0 := hs_p0_0.step hst
        replace hs_p1_1 := hs_p1_1.step hst
        replace hb3 := he13.box hb3 nn
        replace hb5 := he13.box hb5 nn
        replace hb7 := he13.box hb7 nn
        replace ho10 := ho10.step (plain_int _) he13 nn2
        replace hms := hms.ev he13
        replace hev := hev.ext he13
        clear hpk hsb hsb0
        refine x_end rfl ?_
        refine t_alt _ rfl ?_ ?_
        · have hg := guard_l h
          replace h := guard_r h
          obtain ⟨a14, c14, w14, B14, hr14, he14, hn14, ho14⟩ := OwnR.mk (P := Try.prog) (T := 3) (eInt .i64) tel32 w13 x12 hg.1 hg.2
          refine x_makeSlice _ w14 (xv := .int .i64 x12) (yv := .int .i64 x12) rfl rfl rfl rfl hr14 ?_
          refine ⟨.inr he14, ?_⟩
          have hst := Stp.push (ls := [B10, [b7], [b5], [b3], M]) (l := B14) he14 (fun _ h => by cases h) (fun b hb => (hn14 b hb).1)
          replace hs_p0_0 := hs_p0_0.step hst
          replace hs_p1_1 := hs_p1_1.step hst
          replace hb3 := he14.box hb3 nn
          replace hb5 := he14.box hb5 nn
          replace hb7 := he14.box hb7 nn
          replace ho10 := ho10.step (plain_int _) he14 nn2
          replace hms := hms.push he14 hn14
          replace hfr := hfr.push (fun b hb => Nat.le_trans hev.size (hn14 b hb).1)
          replace hev := hev.ext he14
          refine x_build (vs := [(0, .slice a10 ((List.replicate (Int.toNat p1_0) ([] : List Int))).length c10), (1, .slice a14 ((List.replicate (Int.toNat x12) ([] : List Int))).length c14)]) (.agg #[.slice a10 ((List.replicate (Int.toNat p1_0) ([] : List Int))).length c10, .slice a14 ((List.replicate (Int.toNat x12) ([] : List Int))).length c14, .int .i64 0, .int .i64 0]) rfl rfl rfl (fun _ _ => by kernel_rfl) ?_
          refine x_alloc (z := .agg #[.slice none 0 0, .slice none 0 0, .int .i64 0, .int .i64 0]) rfl rfl (by kernel_rfl) (fun b16 w16 hq16 hb16 he16 _ => ?_)
          replace hb16 : w16.heap[b16]? = some (.cells #[.slice none 0 0, .slice none 0 0, .int .i64 0, .int .i64 0] 85 (0, 0)) := hb16
          refine ⟨.inr he16, ?_⟩
          have hst := Stp.box (ls := [B14, B10, [b7], [b5], [b3], M]) he16 hq16
          replace hs_p0_0 := hs_p0_0.step hst
          replace hs_p1_1 := hs_p1_1.step hst
          replace hb3 := he16.box hb3 nn
          replace hb5 := he16.box hb5 nn
          replace hb7 := he16.box hb7 nn
          replace ho10 := ho10.step (plain_int _) he16 nn2
          replace ho14 := ho14.step (plain_int _) he16 nn2
          replace hms := hms.box he16 hq16 hb16
          replace hfr := hfr.box hev.size hq16
          replace hev := hev.ext he16
          obtain ⟨w18, hr18, hb18, he18⟩ := store_boxagg 0 [.slice a10 ((List.replicate (Int.toNat p1_0) ([] : List Int))).length c10, .slice a14 ((List.replicate (Int.toNat x12) ([] : List Int))).length c14, .int .i64 0, .int .i64 0] #[.slice a10 ((List.replicate (Int.toNat p1_0) ([] : List Int))).length c10, .slice a14 ((List.replicate (Int.toNat x12) ([] : List Int))).length c14, .int .i64 0, .int .i64 0] tagg85 hb16 rfl rfl rfl
          refine x_store w18 (xv := .pointer (some ⟨b16, 0, none⟩)) (yv := .agg #[.slice a10 ((List.replicate (Int.toNat p1_0) ([] : List Int))).length c10, .slice a14 ((List.replicate (Int.toNat x12) ([] : List Int))).length c14, .int .i64 0, .int .i64 0]) rfl rfl rfl rfl hr18 ?_
          refine ⟨.inl rfl, ?_⟩
          have hst := Stp.ev' (ls := [[b16], B14, B10, [b7], [b5], [b3], M]) he18 (mem_flat 0 rfl)
          replace hs_p0_0 := hs_p0_0.step hst
          replace hs_p1_1 := hs_p1_1.step hst
          replace hb3 := he18.box hb3 (hms.apart 5 0 rfl rfl rfl _ (List.mem_singleton.2 rfl))
          replace hb5 := he18.box hb5 (hms.apart 4 0 rfl rfl rfl _ (List.mem_singleton.2 rfl))
          replace hb7 := he18.box hb7 (hms.apart 3 0 rfl rfl rfl _ (List.mem_singleton.2 rfl))
          replace ho10 := ho10.step (plain_int _) he18 (hms.apart 2 0 rfl rfl rfl)
          replace ho14 := ho14.step (plain_int _) he18 (hms.apart 1 0 rfl rfl rfl)
          replace hms := hms.ev he18
          replace hev := hev.then he18 (fun b hb => .inr (hfr.at 0 rfl b hb))
          replace hb16 := hb18
          refine x_end rfl ?_
          refine t_stop ?_
          have hpk : MS w18 [[b3], [b5], [b7], B10, B14, [b16], M] := hms.pick [some 5, some 4, some 3, some 2, some 1, some 0, some 6] _ rfl
          have hsu : ∀ x ∈ fl [[b3], [b5], [b7], B10, B14, [b16], M], x ∈ fl [[b16], B14, B10, [b7], [b5], [b3], M] := pick_sub [some 5, some 4, some 3, some 2, some 1, some 0, some 6] _ rfl
          replace hs_p0_0 := hs_p0_0.sub hsu
          replace hs_p1_1 := hs_p1_1.sub hsu
          replace hms := hpk
          replace hfr : FR w.heap.size [[b3], [b5], [b7], B10, B14, [b16]] := hfr.pick [some 5, some 4, some 3, some 2, some 1, some 0] _ rfl
          clear hpk hsu
          exact k_then ⟨((List.replicate (Int.toNat x12) ([] : List Int)), b16, a10, c10, B10, a14, c14, B14), ⟨rfl, rfl, rfl, rfl, rfl, trivial⟩, h, hev, hms, hfr, hs_p0_0, hb3, hs_p1_1, hb5, hb7, ho10, ho14, hb16⟩
        refine t_alt _ rfl ?_ ?_
        · refine x_alloc (z := .agg #[.slice none 0 0, .slice none 0 0, .int .i64 0, .int .i64 0]) rfl rfl (by kernel_rfl) (fun b14 w14 hq14 hb14 he14 _ => ?_)
          replace hb14 : w14.heap[b14]? = some (.cells #[.slice none 0 0, .slice none 0 0, .int .i64 0, .int .i64 0] 85 (0, 0)) := hb14
          refine ⟨.inr he14, ?_⟩
          have hst := Stp.box (ls := [B10, [b7], [b5], [b3], M]) he14 hq14
          replace hs_p0_0 := hs_p0_0.step hst
          replace hs_p1_1 := hs_p1_1.step hst
          replace hb3 := he14.box hb3 nn
          replace hb5 := he14.box hb5 nn
          replace hb7 := he14.box hb7 nn
          replace ho10 := ho10.step (plain_int _) he14 nn2
          replace hms := hms.box he14 hq14 hb14
          replace hfr := hfr.box hev.size hq14
          replace hev := hev.ext he14
          have hg := guard_l h
          replace h := guard_r h
          obtain ⟨a16, c16, w16, B16, hr16, he16, hn16, ho16⟩ := OwnR.mk (P := Try.prog) (T := 3) (eInt .i64) tel32 w14 x12 hg.1 hg.2
          refine x_makeSlice _ w16 (xv := .int .i64 x12) (yv := .int .i64 x12) rfl rfl rfl rfl hr16 ?_
          refine ⟨.inr he16, ?_⟩
          have hst := Stp.push (ls := [[b14], B10, [b7], [b5], [b3], M]) (l := B16) he16 (fun _ h => by cases h) (fun b hb => (hn16 b hb).1)
          replace hs_p0_0 := hs_p0_0.step hst
          replace hs_p1_1 := hs_p1_1.step hst
          replace hb3 := he16.box hb3 nn
          replace hb5 := he16.box hb5 nn
          replace hb7 := he16.box hb7 nn
          replace ho10 := ho10.step (plain_int _) he16 nn2
          replace hb14 := he16.box hb14 nn
          replace hms := hms.push he16 hn16
          replace hfr := hfr.push (fun b hb => Nat.le_trans hev.size (hn16 b hb).1)
          replace hev := hev.ext he16
          refine x_build (vs := [(0, .slice a10 ((List.replicate (Int.toNat p1_0) ([] : List Int))).length c10), (1, .slice a16 ((List.replicate (Int.toNat x12) ([] : List Int))).length c16)]) (.agg #[.slice a10 ((List.replicate (Int.toNat p1_0) ([] : List Int))).length c10, .slice a16 ((List.replicate (Int.toNat x12) ([] : List Int))).length c16, .int .i64 0, .int .i64 0]) rfl rfl rfl (fun _ _ => by kernel_rfl) ?_
          obtain ⟨w18, hr18, hb18, he18⟩ := store_boxagg 0 [.slice a10 ((List.replicate (Int.toNat p1_0) ([] : List Int))).length c10, .slice a16 ((List.replicate (Int.toNat x12) ([] : List Int))).length c16, .int .i64 0, .int .i64 0] #[.slice a10 ((List.replicate (Int.toNat p1_0) ([] : List Int))).length c10, .slice a16 ((List.replicate (Int.toNat x12) ([] : List Int))).length c16, .int .i64 0, .int .i64 0] tagg85 hb14 rfl rfl rfl
          refine x_store w18 (xv := .pointer (some ⟨b14, 0, none⟩)) (yv := .agg #[.slice a10 ((List.replicate (Int.toNat p1_0) ([] : List Int))).length c10, .slice a16 ((List.replicate (Int.toNat x12) ([] : List Int))).length c16, .int .i64 0, .int .i64 0]) rfl rfl rfl rfl hr18 ?_
          refine ⟨.inl rfl, ?_⟩
          have hst := Stp.ev' (ls := [B16, [b14], B10, [b7], [b5], [b3], M]) he18 (mem_flat 1 rfl)
          replace hs_p0_0 := hs_p0_0.step hst
          replace hs_p1_1 := hs_p1_1.step hst
          replace hb3 := he18.box hb3 (hms.apart 5 1 rfl rfl rfl _ (List.mem_singleton.2 rfl))
          replace hb5 := he18.box hb5 (hms.apart 4 1 rfl rfl rfl _ (List.mem_singleton.2 rfl))
          replace hb7 := he18.box hb7 (hms.apart 3 1 rfl rfl rfl _ (List.mem_singleton.2 rfl))
          replace ho10 := ho10.step (plain_int _) he18 (hms.apart 2 1 rfl rfl rfl)
          replace ho16 := ho16.step (plain_int _) he18 (hms.apart 0 1 rfl rfl rfl)
          replace hms := hms.ev he18
          replace hev := hev.then he18 (fun b hb => .inr (hfr.at 1 rfl b hb))
          replace hb14 := hb18
          refine x_end rfl ?_
          refine t_stop ?_
          have hpk : MS w18 [[b3], [b5], [b7], B10, B16, [b14], M] := hms.pick [some 5, some 4, some 3, some 2, some 0, some 1, some 6] _ rfl
          have hsu : ∀ x ∈ fl [[b3], [b5], [b7], B10, B16, [b14], M], x ∈ fl [B16, [b14], B10, [b7], [b5], [b3], M] := pick_sub [some 5, some 4, some 3, some 2, some 0, some 1, some 6] _ rfl
          replace hs_p0_0 := hs_p0_0.sub hsu
          replace hs_p1_1 := hs_p1_1.sub hsu
          replace hms := hpk
          replace hfr : FR w.heap.size [[b3], [b5], [b7], B10, B16, [b14]] := hfr.pick [some 5, some 4, some 3, some 2, some 0, some 1] _ rfl
          clear hpk hsu
          exact k_then ⟨((List.replicate (Int.toNat x12) ([] : List Int)), b14, a10, c10, B10, a16, c16, B16), ⟨rfl, rfl, rfl, rfl, rfl, trivial⟩, h, hev, hms, hfr, hs_p0_0, hb3, hs_p1_1, hb5, hb7, ho10, ho16, hb14⟩
        exact t_none
      refine t_alt _ rfl ?_ ?_
      · refine x_alloc (z := .agg #[.slice none 0 0, .slice none 0 0, .int .i64 0, .int .i64 0]) rfl rfl (by kernel_rfl) (fun b12 w12 hq12 hb12 he12 _ => ?_)
        replace hb12 : w12.heap[b12]? = some (.cells #[.slice none 0 0, .slice none 0 0, .int .i64 0, .int .i64 0] 85 (0, 0)) := hb12
        refine ⟨.inr he12, ?_⟩
        have hst := Stp.box (ls := [B10, [b7], [b5], [b3], M]) he12 hq12
        replace hs_p0_0 := hs_p0_0.step hst
        replace hs_p1_1 := hs_p1_1.step hst
        replace hb3 := he12.box hb3 nn
        replace hb5 := he12.box hb5 nn
        replace hb7 := he12.box hb7 nn
        replace ho10 := ho10.step (plain_int _) he12 nn2
        replace hms := hms.box he12 hq12 hb12
        replace hfr := hfr.box hev.size hq12
        replace hev := hev.ext he12
        obtain ⟨x14, hx, h⟩ := bind_some h
        have hpk : MS w12 ([] ++ [[b12], B10, [b7], [b5], [b3], M]) := hms.pick [some 0, some 1, some 2, some 3, some 4, some 5] _ rfl
        have hsb0 : ∀ x ∈ fl ([] ++ [[b12], B10, [b7], [b5], [b3], M]), x ∈ fl [[b12], B10, [b7], [b5], [b3], M] := pick_sub [some 0, some 1, some 2, some 3, some 4, some 5] _ rfl
        have hsb : ∀ x ∈ fl ([] ++ [(fl [[b12], B10, [b7], [b5], [b3], M])]), x ∈ fl [[b12], B10, [b7], [b5], [b3], M] := fun x hx => hsb0 x (fl_unfold x hx)
        have hcall := r14_trains_w a_p0_0 c_p0_0 p0_0 p0_1 _ w12 (fl [[b12], B10, [b7], [b5], [b3], M]) (MS.fold (P := []) hpk) (hs_p0_0.sub hsb) hx
        refine x_call 52 #[] #[] [.agg #[.slice a_p0_0 (p0_0).length c_p0_0, .int .i64 p0_1]] _ rfl rfl rfl rfl hcall ?_
        rintro v w15 ⟨rfl, he15⟩
        clear hcall hx
        refine ⟨.inr he15, ?_⟩
        have hst := Stp.ext (ls := [[b12], B10, [b7], [b5], [b3], M]) he15
        replace hs_p0_0 := hs_p0_0.step hst
        replace hs_p1_1 := hs_p1_1.step hst
        replace hb3 := he15.box hb3 nn
        replace hb5 := he15.box hb5 nn
        replace hb7 := he15.box hb7 nn
        replace ho10 := ho10.step (plain_int _) he15 nn2
        replace hb12 := he15.box hb12 nn
        replace hms := hms.ev he15
        replace hev := hev.ext he15
        clear hpk hsb hsb0
        have hg := guard_l h
        replace h := guard_r h
        obtain ⟨a16, c16, w16, B16, hr16, he16, hn16, ho16⟩ := OwnR.mk (P := Try.prog) (T := 3) (eInt .i64) tel32 w15 x14 hg.1 hg.2
        refine x_makeSlice _ w16 (xv := .int .i64 x14) (yv := .int .i64 x14) rfl rfl rfl rfl hr16 ?_
        refine ⟨.inr he16, ?_⟩
        have hst := Stp.push (ls := [[b12], B10, [b7], [b5], [b3], M]) (l := B16) he16 (fun _ h => by cases h) (fun b hb => (hn16 b hb).1)
        replace hs_p0_0 := hs_p0_0.step hst
        replace hs_p1_1 := hs_p1_1.step hst
        replace hb3 := he16.box hb3 nn
        replace hb5 := he16.box hb5 nn
        replace hb7 := he16.box hb7 nn
        replace ho10 := ho10.step (plain_int _) he16 nn2
        replace hb12 := he16.box hb12 nn
        replace hms := hms.push he16 hn16
        replace hfr := hfr.push (fun b hb => Nat.le_trans hev.size (hn16 b hb).1)
        replace hev := hev.ext he16
        refine x_build (vs := [(0, .slice a10 ((List.replicate (Int.toNat p1_0) ([] : List Int))).length c10), (1, .slice a16 ((List.replicate (Int.toNat x14) ([] : List Int))).length c16)]) (.agg #[.slice a10 ((List.replicate (Int.toNat p1_0) ([] : List Int))).length c10, .slice a16 ((List.replicate (Int.toNat x14) ([] : List Int))).length c16, .int .i64 0, .int .i64 0]) rfl rfl rfl (fun _ _ => by kernel_rfl) ?_
        obtain ⟨w18, hr18, hb18, he18⟩ := store_boxagg 0 [.slice a10 ((List.replicate (Int.toNat p1_0) ([] : List Int))).length c10, .slice a16 ((List.replicate (Int.toNat x14) ([] : List Int))).length c16, .int .i64 0, .int .i64 0] #[.slice a10 ((List.replicate (Int.toNat p1_0) ([] : List Int))).length c10, .slice a16 ((List.replicate (Int.toNat x14) ([] : List Int))).length c16, .int .i64 0, .int .i64 0] tagg85 hb12 rfl rfl rfl
        refine x_store w18 (xv := .pointer (some ⟨b12, 0, none⟩)) (yv := .agg #[.slice a10 ((List.replicate (Int.toNat p1_0) ([] : List Int))).length c10, .slice a16 ((List.replicate (Int.toNat x14) ([] : List Int))).length c16, .int .i64 0, .int .i64 0]) rfl rfl rfl rfl hr18 ?_
        refine ⟨.inl rfl, ?_⟩
        have hst := Stp.ev' (ls := [B16, [b12], B10, [b7], [b5], [b3], M]) he18 (mem_flat 1 rfl)
        replace hs_p0_0 := hs_p0_0.step hst
        replace hs_p1_1 := hs_p1_1.step hst
        replace hb3 := he18.box hb3 (hms.apart 5 1 rfl rfl rfl _ (List.mem_singleton.2 rfl))
        replace hb5 := he18.box hb5 (hms.apart 4 1 rfl rfl rfl _ (List.mem_singleton.2 rfl))
        replace hb7 := he18.box hb7 (hms.apart 3 1 rfl rfl rfl _ (List.mem_singleton.2 rfl))
        replace ho10 := ho10.step (plain_int _) he18 (hms.apart 2 1 rfl rfl rfl)
        replace ho16 := ho16.step (plain_int _) he18 (hms.apart 0 1 rfl rfl rfl)
        replace hms := hms.ev he18
        replace hev := hev.then he18 (fun b hb => .inr (hfr.at 1 rfl b hb))
        replace hb12 := hb18
        refine x_end rfl ?_
        refine t_stop ?_
        have hpk : MS w18 [[b3], [b5], [b7], B10, B16, [b12], M] := hms.pick [some 5, some 4, some 3, some 2, some 0, some 1, some 6] _ rfl
        have hsu : ∀ x ∈ fl [[b3], [b5], [b7], B10, B16, [b12], M], x ∈ fl [B16, [b12], B10, [b7], [b5], [b3], M] := pick_sub [some 5, some 4, some 3, some 2, some 0, some 1, some 6] _ rfl
        replace hs_p0_0 := hs_p0_0.sub hsu
        replace hs_p1_1 := hs_p1_1.sub hsu
        replace hms := hpk
        replace hfr : FR w.heap.size [[b3], [b5], [b7], B10, B16, [b12]] := hfr.pick [some 5, some 4, some 3, some 2, some 0, some 1] _ rfl
        clear hpk hsu
        exact k_then ⟨((List.replicate (Int.toNat x14) ([] : List Int)), b12, a10, c10, B10, a16, c16, B16), ⟨rfl, rfl, rfl, rfl, rfl, trivial⟩, h, hev, hms, hfr, hs_p0_0, hb3, hs_p1_1, hb5, hb7, ho10, ho16, hb12⟩
      exact t_none
    refine t_alt _ rfl ?_ ?_
    · have hpg0 := guard_l h
      replace h := guard_r h
      obtain ⟨x12, hpg1, h⟩ := bind_some h
      have hpg2 := guard_l h
      replace h := guard_r h
      replace h : ((r14_trains p0_0 p0_1).bind fun x10 =>
(if 0 ≤ p1_0 ∧ p1_0 ≤ 4294967296 then
(if 0 ≤ x10 ∧ x10 ≤ 4294967296 then
r14_At_J9 p0_0 p0_1 p1_0 p1_1 p2 (List.replicate (Int.toNat x10) ([] : List Int))
else none)
else none)) = _ := (bind_i hpg1 (guard_i hpg0 (guard_i hpg2 h)))
      clear hpg0 hpg1 hpg2
      obtain ⟨x10, hx, h⟩ := bind_some h
      have hpk : MS (w7).drew ([] ++ [[b7], [b5], [b3], M]) := hms.pick [some 0, some 1, some 2, some 3] _ rfl
      have hsb0 : ∀ x ∈ fl ([] ++ [[b7], [b5], [b3], M]), x ∈ fl [[b7], [b5], [b3], M] := pick_sub [some 0, some 1, some 2, some 3] _ rfl
      have hsb : ∀ x ∈ fl ([] ++ [(fl [[b7], [b5], [b3], M])]), x ∈ fl [[b7], [b5], [b3], M] := fun x hx => hsb0 x (fl_unfold x hx)
      have hcall := r14_trains_w a_p0_0 c_p0_0 p0_0 p0_1 _ (w7).drew (fl [[b7], [b5], [b3], M]) (MS.fold (P := []) hpk) (hs_p0_0.sub hsb) hx
      refine x_call 52 #[] #[] [.agg #[.slice a_p0_0 (p0_0).length c_p0_0, .int .i64 p0_1]] _ rfl rfl rfl rfl hcall ?_
      rintro v w11 ⟨rfl, he11⟩
      clear hcall hx
      refine ⟨.inr he11, ?_⟩
      have hst := Stp.ext (ls := [[b7], [b5], [b3], M]) he11
      replace hs_p0_0 := hs_p0_0.step hst
      replace hs_p1_1 := hs_p1_1.step hst
      replace hb3 := he11.box hb3 nn
      replace hb5 := he11.box hb5 nn
      replace hb7 := he11.box hb7 nn
      replace hms := hms.ev he11
      replace hev := hev.ext he11
      clear hpk hsb hsb0
      refine x_end rfl ?_
      refine t_alt _ rfl ?_ ?_
      · have hg := guard_l h
        replace h := guard_r h
        obtain ⟨a12, c12, w12, B12, hr12, he12, hn12, ho12⟩ := OwnR.mk (P := Try.prog) (T := 3) (eInt .i64) tel32 w11 p1_0 hg.1 hg.2
        refine x_makeSlice _ w12 (xv := .int .i64 p1_0) (yv := .int .i64 p1_0) rfl rfl rfl rfl hr12 ?_
        refine ⟨.inr he12, ?_⟩
        have hst := Stp.push (ls := [[b7], [b5], [b3], M]) (l := B12) he12 (fun _ h => by cases h) (fun b hb => (hn12 b hb).1)
        replace hs_p0_0 := hs_p0_0.step hst
        replace hs_p1_1 := hs_p1_1.step hst
        replace hb3 := he12.box hb3 nn
        replace hb5 := he12.box hb5 nn
        replace hb7 := he12.box hb7 nn
        replace hms := hms.push he12 hn12
        replace hfr := hfr.push (fun b hb => Nat.le_trans hev.size (hn12 b hb).1)
        replace hev := hev.ext he12
        refine x_end rfl ?_
        refine t_alt _ rfl ?_ ?_
        · have hg := guard_l h
          replace h := guard_r h
          obtain ⟨a14, c14, w14, B14, hr14, he14, hn14, ho14⟩ := OwnR.mk (P := Try.prog) (T := 3) (eInt .i64) tel32 w12 x10 hg.1 hg.2
          refine x_makeSlice _ w14 (xv := .int .i64 x10) (yv := .int .i64 x10) rfl rfl rfl rfl hr14 ?_
          refine ⟨.inr he14, ?_⟩
          have hst := Stp.push (ls := [B12, [b7], [b5], [b3], M]) (l := B14) he14 (fun _ h => by cases h) (fun b hb => (hn14 b hb).1)
          replace hs_p0_0 := hs_p0_0.step hst
          replace hs_p1_1 := hs_p1_1.step hst
          replace hb3 := he14.box hb3 nn
          replace hb5 := he14.box hb5 nn
          replace hb7 := he14.box hb7 nn
          replace ho12 := ho12.step (plain_int _) he14 nn2
          replace hms := hms.push he14 hn14
          replace hfr := hfr.push (fun b hb => Nat.le_trans hev.size (hn14 b hb).1)
          replace hev := hev.ext he14
          refine x_build (vs := [(0, .slice a12 ((List.replicate (Int.toNat p1_0) ([] : List Int))).length c12), (1, .slice a14 ((List.replicate (Int.toNat x10) ([] : List Int))).length c14)]) (.agg #[.slice a12 ((List.replicate (Int.toNat p1_0) ([] : List Int))).length c12, .slice a14 ((List.replicate (Int.toNat x10) ([] : List Int))).length c14, .int .i64 0, .int .i64 0]) rfl rfl rfl (fun _ _ => by kernel_rfl) ?_
          refine x_alloc (z := .agg #[.slice none 0 0, .slice none 0 0, .int .i64 0, .int .i64 0]) rfl rfl (by kernel_rfl) (fun b16 w16 hq16 hb16 he16 _ => ?_)
          replace hb16 : w16.heap[b16]? = some (.cells #[.slice none 0 0, .slice none 0 0, .int .i64 0, .int .i64 0] 85 (0, 0)) := hb16
          refine ⟨.inr he16, ?_⟩
          have hst := Stp.box (ls := [B14, B12, [b7], [b5], [b3], M]) he16 hq16
          replace hs_p0_0 := hs_p0_0.step hst
          replace hs_p1_1 := hs_p1_1.step hst
          replace hb3 := he16.box hb3 nn
          replace hb5 := he16.box hb5 nn
          replace hb7 := he16.box hb7 nn
          replace ho12 := ho12.step (plain_int _) he16 nn2
          replace ho14 := ho14.step (plain_int _) he16 nn2
          replace hms := hms.box he16 hq16 hb16
          replace hfr := hfr.box hev.size hq16
          replace hev := hev.ext he16
          obtain ⟨w18, hr18, hb18, he18⟩ := store_boxagg 0 [.slice a12 ((List.replicate (Int.toNat p1_0) ([] : List Int))).length c12, .slice a14 ((List.replicate (Int.toNat x10) ([] : List Int))).length c14, .int .i64 0, .int .i64 0] #[.slice a12 ((List.replicate (Int.toNat p1_0) ([] : List Int))).length c12, .slice a14 ((List.replicate (Int.toNat x10) ([] : List Int))).length c14, .int .i64 0, .int .i64 0] tagg85 hb16 rfl rfl rfl
          refine x_store w18 (xv := .pointer (some ⟨b16, 0, none⟩)) (yv := .agg #[.slice a12 ((List.replicate (Int.toNat p1_0) ([] : List Int))).length c12, .slice a14 ((List.replicate (Int.toNat x10) ([] : List Int))).length c14, .int .i64 0, .int .i64 0]) rfl rfl rfl rfl hr18 ?_
          refine ⟨.inl rfl, ?_⟩
          have hst := Stp.ev' (ls := [[b16], B14, B12, [b7], [b5], [b3], M]) he18 (mem_flat 0 rfl)
          replace hs_p0_0 := hs_p0_0.step hst
          replace hs_p1_1 := hs_p1_1.step hst
          replace hb3 := he18.box hb3 (hms.apart 5 0 rfl rfl rfl _ (List.mem_singleton.2 rfl))
          replace hb5 := he18.box hb5 (hms.apart 4 0 rfl rfl rfl _ (List.mem_singleton.2 rfl))
          replace hb7 := he18.box hb7 (hms.apart 3 0 rfl rfl rfl _ (List.mem_singleton.2 rfl))
          replace ho12 := ho12.step (plain_int _) he18 (hms.apart 2 0 rfl rfl rfl)
          replace ho14 := ho14.step (plain_int _) he18 (hms.apart 1 0 rfl rfl rfl)
          replace hms := hms.ev he18
          replace hev := hev.then he18 (fun b hb => .inr (hfr.at 0 rfl b hb))
          replace hb16 := hb18
          refine x_end rfl ?_
          refine t_stop ?_
          have hpk : MS w18 [[b3], [b5], [b7], B12, B14, [b16], M] := hms.pick [some 5, some 4, some 3, some 2, some 1, some 0, some 6] _ rfl
          have hsu : ∀ x ∈ fl [[b3], [b5], [b7], B12, B14, [b16], M], x ∈ fl [[b16], B14, B12, [b7], [b5], [b3], M] := pick_sub [some 5, some 4, some 3, some 2, some 1, some 0, some 6] _ rfl
          replace hs_p0_0 := hs_p0_0.sub hsu
          replace hs_p1_1 := hs_p1_1.sub hsu
          replace hms := hpk
          replace hfr : FR w.heap.size [[b3], [b5], [b7], B12, B14, [b16]] := hfr.pick [some 5, some 4, some 3, some 2, some 1, some 0] _ rfl
          clear hpk hsu
          exact k_then ⟨((List.replicate (Int.toNat x10) ([] : List Int)), b16, a12, c12, B12, a14, c14, B14), ⟨rfl, rfl, rfl, rfl, rfl, trivial⟩, h, hev, hms, hfr, hs_p0_0, hb3, hs_p1_1, hb5, hb7, ho12, ho14, hb16⟩
        refine t_alt _ rfl ?_ ?_
        · refine x_alloc (z := .agg #[.slice none 0 0, .slice none 0 0, .int .i64 0, .int .i64 0]) rfl rfl (by kernel_rfl) (fun b14 w14 hq14 hb14 he14 _ => ?_)
          replace hb14 : w14.heap[b14]? = some (.cells #[.slice none 0 0, .slice none 0 0, .int .i64 0, .int .i64 0] 85 (0, 0)) := hb14
          refine ⟨.inr he14, ?_⟩
          have hst := Stp.box (ls := [B12, [b7], [b5], [b3], M]) he14 hq14
          replace hs_p0_0 := hs_p0_0.step hst
          replace hs_p1_1 := hs_p1_1.step hst
          replace hb3 := he14.box hb3 nn
          replace hb5 := he14.box hb5 nn
          replace hb7 := he14.box hb7 nn
          replace ho12 := ho12.step (plain_int _) he14 nn2
          replace hms := hms.box he14 hq14 hb14
          replace hfr := hfr.box hev.size hq14
          replace hev := hev.ext he14
          have hg := guard_l h
          replace h := guard_r h
          obtain ⟨a16, c16, w16, B16, hr16, he16, hn16, ho16⟩ := OwnR.mk (P := Try.prog) (T := 3) (eInt .i64) tel32 w14 x10 hg.1 hg.2
          refine x_makeSlice _ w16 (xv := .int .i64 x10) (yv := .int .i64 x10) rfl rfl rfl rfl hr16 ?_
          refine ⟨.inr he16, ?_⟩
          have hst := Stp.push (ls := [[b14], B12, [b7], [b5], [b3], M]) (l := B16) he16 (fun _ h => by cases h) (fun b hb => (hn16 b hb).1)
          replace hs_p0_0 := hs_p0_0.step hst
          replace hs_p1_1 := hs_p1_1.step hst
          replace hb3 := he16.box hb3 nn
          replace hb5 := he16.box hb5 nn
          replace hb7 := he16.box hb7 nn
          replace ho12 := ho12.step (plain_int _) he16 nn2
          replace hb14 := he16.box hb14 nn
          replace hms := hms.push he16 hn16
          replace hfr := hfr.push (fun b hb => Nat.le_trans hev.size (hn16 b hb).1)
          replace hev := hev.ext he16
          refine x_build (vs := [(0, .slice a12 ((List.replicate (Int.toNat p1_0) ([] : List Int))).length c12), (1, .slice a16 ((List.replicate (Int.toNat x10) ([] : List Int))).length c16)]) (.agg #[.slice a12 ((List.replicate (Int.toNat p1_0) ([] : List Int))).length c12, .slice a16 ((List.replicate (Int.toNat x10) ([] : List Int))).length c16, .int .i64 0, .int .i64 0]) rfl rfl rfl (fun _ _ => by kernel_rfl) ?_
          obtain ⟨w18, hr18, hb18, he18⟩ := store_boxagg 0 [.slice a12 ((List.replicate (Int.toNat p1_0) ([] : List Int))).length c12, .slice a16 ((List.replicate (Int.toNat x10) ([] : List Int))).length c16, .int .i64 0, .int .i64 0] #[.slice a12 ((List.replicate (Int.toNat p1_0) ([] : List Int))).length c12, .slice a16 ((List.replicate (Int.toNat x10) ([] : List Int))).length c16, .int .i64 0, .int .i64 0] tagg85 hb14 rfl rfl rfl
          refine x_store w18 (xv := .pointer (some ⟨b14, 0, none⟩)) (yv := .agg #[.slice a12 ((List.replicate (Int.toNat p1_0) ([] : List Int))).length c12, .slice a16 ((List.replicate (Int.toNat x10) ([] : List Int))).length c16, .int .i64 0, .int .i64 0]) rfl rfl rfl rfl hr18 ?_
          refine ⟨.inl rfl, ?_⟩
          have hst := Stp.ev' (ls := [B16, [b14], B12, [b7], [b5], [b3], M]) he18 (mem_flat 1 rfl)
          replace hs_p0_0 := hs_p0_0.step hst
          replace hs_p1_1 := hs_p1_1.step hst
          replace hb3 := he18.box hb3 (hms.apart 5 1 rfl rfl rfl _ (List.mem_singleton.2 rfl))
          replace hb5 := he18.box hb5 (hms.apart 4 1 rfl rfl rfl _ (List.mem_singleton.2 rfl))
          replace hb7 := he18.box hb7 (hms.apart 3 1 rfl rfl rfl _ (List.mem_singleton.2 rfl))
          replace ho12 := ho12.step (plain_int _) he18 (hms.apart 2 1 rfl rfl rfl)
          replace ho16 := ho16.step (plain_int _) he18 (hms.apart 0 1 rfl rfl rfl)
          replace hms := hms.ev he18
          replace hev := hev.then he18 (fun b hb => .inr (hfr.at 1 rfl b hb))
          replace hb14 := hb18
          refine x_end rfl ?_
          refine t_stop ?_
          have hpk : MS w18 [[b3], [b5], [b7], B12, B16, [b14], M] := hms.pick [some 5, some 4, some 3, some 2, some 0, some 1, some 6] _ rfl
          have hsu : ∀ x ∈ fl [[b3], [b5], [b7], B12, B16, [b14], M], x ∈ fl [B16, [b14], B12, [b7], [b5], [b3], M] := pick_sub [some 5, some 4, some 3, some 2, some 0, some 1, some 6] _ rfl
          replace hs_p0_0 := hs_p0_0.sub hsu
          replace hs_p1_1 := hs_p1_1.sub hsu
          replace hms := hpk
          replace hfr : FR w.heap.size [[b3], [b5], [b7], B12, B16, [b14]] := hfr.pick [some 5, some 4, some 3, some 2, some 0, some 1] _ rfl
          clear hpk hsu
          exact k_then ⟨((List.replicate (Int.toNat x10) ([] : List Int)), b14, a12, c12, B12, a16, c16, B16), ⟨rfl, rfl, rfl, rfl, rfl, trivial⟩, h, hev, hms, hfr, hs_p0_0, hb3, hs_p1_1, hb5, hb7, ho12, ho16, hb14⟩
        exact t_none
      refine t_alt _ rfl ?_ ?_
      · have hpg0 := guard_l h
        replace h := guard_r h
        have hpg1 := guard_l h
        replace h := guard_r h
        replace h : (if 0 ≤ x10 ∧ x10 ≤ 4294967296 then
(if 0 ≤ p1_0 ∧ p1_0 ≤ 4294967296 then
r14_At_J9 p0_0 p0_1 p1_0 p1_1 p2 (List.replicate (Int.toNat x10) ([] : List Int))
else none)
else none) = _ := (guard_i hpg1 (guard_i hpg0 h))
        clear hpg0 hpg1
        have hg := guard_l h
        replace h := guard_r h
        obtain ⟨a12, c12, w12, B12, hr12, he12, hn12, ho12⟩ := OwnR.mk (P := Try.prog) (T := 3) (eInt .i64) tel32 w11 x10 hg.1 hg.2
        refine x_makeSlice _ w12 (xv := .int .i64 x10) (yv := .int .i64 x10) rfl rfl rfl rfl hr12 ?_
        refine ⟨.inr he12, ?_⟩
        have hst := Stp.push (ls := [[b7], [b5], [b3], M]) (l := B12) he12 (fun _ h => by cases h) (fun b hb => (hn12 b hb).1)
        replace hs_p0_0 := hs_p0_0.step hst
        replace hs_p1_1 := hs_p1_1.step hst
        replace hb3 := he12.box hb3 nn
        replace hb5 := he12.box hb5 nn
        replace hb7 := he12.box hb7 nn
        replace hms := hms.push he12 hn12
        replace hfr := hfr.push (fun b hb => Nat.le_trans hev.size (hn12 b hb).1)
        replace hev := hev.ext he12
        refine x_end rfl ?_
        refine t_alt _ rfl ?_ ?_
        · have hg := guard_l h
          replace h := guard_r h
          obtain ⟨a14, c14, w14, B14, hr14, he14, hn14, ho14⟩ := OwnR.mk (P := Try.prog) (T := 3) (eInt .i64) tel32 w12 p1_0 hg.1 hg.2
          refine x_makeSlice _ w14 (xv := .int .i64 p1_0) (yv := .int .i64 p1_0) rfl rfl rfl rfl hr14 ?_
          refine ⟨.inr he14, ?_⟩
          have hst := Stp.push (ls := [B12, [b7], [b5], [b3], M]) (l := B14) he14 (fun _ h => by cases h) (fun b hb => (hn14 b hb).1)
          replace hs_p0_0 := hs_p0_0.step hst
          replace hs_p1_1 := hs_p1_1.step hst
          replace hb3 := he14.box hb3 nn
          replace hb5 := he14.box hb5 nn
          replace hb7 := he14.box hb7 nn
          replace ho12 := ho12.step (plain_int _) he14 nn2
          replace hms := hms.push he14 hn14
          replace hfr := hfr.push (fun b hb => Nat.le_trans hev.size (hn14 b hb).1)
          replace hev := hev.ext he14
          refine x_build (vs := [(0, .slice a14 ((List.replicate (Int.toNat p1_0) ([] : List Int))).length c14), (1, .slice a12 ((List.replicate (Int.toNat x10) ([] : List Int))).length c12)]) (.agg #[.slice a14 ((List.replicate (Int.toNat p1_0) ([] : List Int))).length c14, .slice a12 ((List.replicate (Int.toNat x10) ([] : List Int))).length c12, .int .i64 0, .int .i64 0]) rfl rfl rfl (fun _ _ => by kernel_rfl) ?_
          refine x_alloc (z := .agg #[.slice none 0 0, .slice none 0 0, .int .i64 0, .int .i64 0]) rfl rfl (by kernel_rfl) (fun b16 w16 hq16 hb16 he16 _ => ?_)
          replace hb16 : w16.heap[b16]? = some (.cells #[.slice none 0 0, .slice none 0 0, .int .i64 0, .int .i64 0] 85 (0, 0)) := hb16
          refine ⟨.inr he16, ?_⟩
          have hst := Stp.box (ls := [B14, B12, [b7], [b5], [b3], M]) he16 hq16
          replace hs_p0_0 := hs_p0_0.step hst
          replace hs_p1_1 := hs_p1_1.step hst
          replace hb3 := he16.box hb3 nn
          replace hb5 := he16.box hb5 nn
          replace hb7 := he16.box hb7 nn
          replace ho12 := ho12.step (plain_int _) he16 nn2
          replace ho14 := ho14.step (plain_int _) he16 nn2
          replace hms := hms.box he16 hq16 hb16
          replace hfr := hfr.box hev.size hq16
          replace hev := hev.ext he16
          obtain ⟨w18, hr18, hb18, he18⟩ := store_boxagg 0 [.slice a14 ((List.replicate (Int.toNat p1_0) ([] : List Int))).length c14, .slice a12 ((List.replicate (Int.toNat x10) ([] : List Int))).length c12, .int .i64 0, .int .i64 0] #[.slice a14 ((List.replicate (Int.toNat p1_0) ([] : List Int))).length c14, .slice a12 ((List.replicate (Int.toNat x10) ([] : List Int))).length c12, .int .i64 0, .int .i64 0] tagg85 hb16 rfl rfl rfl
          refine x_store w18 (xv := .pointer (some ⟨b16, 0, none⟩)) (yv := .agg #[.slice a14 ((List.replicate (Int.toNat p1_0) ([] : List Int))).length c14, .slice a12 ((List.replicate (Int.toNat x10) ([] : List Int))).length c12, .int .i64 0, .int .i64 0]) rfl rfl rfl rfl hr18 ?_
          refine ⟨.inl rfl, ?_⟩
          have hst := Stp.ev' (ls := [[b16], B14, B12, [b7], [b5], [b3], M]) he18 (mem_flat 0 rfl)
          replace hs_p0_0 := hs_p0_0.step hst
          replace hs_p1_1 := hs_p1_1.step hst
          replace hb3 := he18.box hb3 (hms.apart 5 0 rfl rfl rfl _ (List.mem_singleton.2 rfl))
          replace hb5 := he18.box hb5 (hms.apart 4 0 rfl rfl rfl _ (List.mem_singleton.2 rfl))
          replace hb7 := he18.box hb7 (hms.apart 3 0 rfl rfl rfl _ (List.mem_singleton.2 rfl))
          replace ho12 := ho12.step (plain_int _) he18 (hms.apart 2 0 rfl rfl rfl)
          replace ho14 := ho14.step (plain_int _) he18 (hms.apart 1 0 rfl rfl rfl)
          replace hms := hms.ev he18
          replace hev := hev.then he18 (fun b hb => .inr (hfr.at 0 rfl b hb))
          replace hb16 := hb18
          refine x_end rfl ?_
          refine t_stop ?_
          have hpk : MS w18 [[b3], [b5], [b7], B14, B12, [b16], M] := hms.pick [some 5, some 4, some 3, some 1, some 2, some 0, some 6] _ rfl
          have hsu : ∀ x ∈ fl [[b3], [b5], [b7], B14, B12, [b16], M], x ∈ fl [[b16], B14, B12, [b7], [b5], [b3], M] := pick_sub [some 5, some 4, some 3, some 1, some 2, some 0, some 6] _ rfl
          replace hs_p0_0 := hs_p0_0.sub hsu
          replace hs_p1_1 := hs_p1_1.sub hsu
          replace hms := hpk
          replace hfr : FR w.heap.size [[b3], [b5], [b7], B14, B12, [b16]] := hfr.pick [some 5, some 4, some 3, some 1, some 2, some 0] _ rfl
          clear hpk hsu
          exact k_then ⟨((List.replicate (Int.toNat x10) ([] : List Int)), b16, a14, c14, B14, a12, c12, B12), ⟨rfl, rfl, rfl, rfl, rfl, trivial⟩, h, hev, hms, hfr, hs_p0_0, hb3, hs_p1_1, hb5, hb7, ho14, ho12, hb16⟩
        refine t_alt _ rfl ?_ ?_
        · refine x_alloc (z := .agg #[.slice none 0 0, .slice none 0 0, .int .i64 0, .int .i64 0]) rfl rfl (by kernel_rfl) (fun b14 w14 hq14 hb14 he14 _ => ?_)
          replace hb14 : w14.heap[b14]? = some (.cells #[.slice none 0 0, .slice none 0 0, .int .i64 0, .int .i64 0] 85 (0, 0)) := hb14
          refine ⟨.inr he14, ?_⟩
          have hst := Stp.box (ls := [B12, [b7], [b5], [b3], M]) he14 hq14
          replace hs_p0_0 := hs_p0_0.step hst
          replace hs_p1_1 := hs_p1_1.step hst
          replace hb3 := he14.box hb3 nn
          replace hb5 := he14.box hb5 nn
          replace hb7 := he14.box hb7 nn
          replace ho12 := ho12.step (plain_int _) he14 nn2
          replace hms := hms.box he14 hq14 hb14
          replace hfr := hfr.box hev.size hq14
          replace hev := hev.ext he14
          have hg := guard_l h
          replace h := guard_r h
          obtain ⟨a16, c16, w16, B16, hr16, he16, hn16, ho16⟩ := OwnR.mk (P := Try.prog) (T := 3) (eInt .i64) tel32 w14 p1_0 hg.1 hg.2
          refine x_makeSlice _ w16 (xv := .int .i64 p1_0) (yv := .int .i64 p1_0) rfl rfl rfl rfl hr16 ?_
          refine ⟨.inr he16, ?_⟩
          have hst := Stp.push (ls := [[b14], B12, [b7], [b5], [b3], M]) (l := B16) he16 (fun _ h => by cases h) (fun b hb => (hn16 b hb).1)
          replace hs_p0_0 := hs_p0_0.step hst
          replace hs_p1_1 := hs_p1_1.step hst
          replace hb3 := he16.box hb3 nn
          replace hb5 := he16.box hb5 nn
          replace hb7 := he16.box hb7 nn
          replace ho12 := ho12.step (plain_int _) he16 nn2
          replace hb14 := he16.box hb14 nn
          replace hms := hms.push he16 hn16
          replace hfr := hfr.push (fun b hb => Nat.le_trans hev.size (hn16 b hb).1)
          replace hev := hev.ext he16
          refine x_build (vs := [(0, .slice a16 ((List.replicate (Int.toNat p1_0) ([] : List Int))).length c16), (1, .slice a12 ((List.replicate (Int.toNat x10) ([] : List Int))).length c12)]) (.agg #[.slice a16 ((List.replicate (Int.toNat p1_0) ([] : List Int))).length c16, .slice a12 ((List.replicate (Int.toNat x10) ([] : List Int))).length c12, .int .i64 0, .int .i64 0]) rfl rfl rfl (fun _ _ => by kernel_rfl) ?_
          obtain ⟨w18, hr18, hb18, he18⟩ := store_boxagg 0 [.slice a16 ((List.replicate (Int.toNat p1_0) ([] : List Int))).length c16, .slice a12 ((List.replicate (Int.toNat x10) ([] : List Int))).length c12, .int .i64 0, .int .i64 0] #[.slice a16 ((List.replicate (Int.toNat p1_0) ([] : List Int))).length c16, .slice a12 ((List.replicate (Int.toNat x10) ([] : List Int))).length c12, .int .i64 0, .int .i64 0] tagg85 hb14 rfl rfl rfl
          refine x_store w18 (xv := .pointer (some ⟨b14, 0, none⟩)) (yv := .agg #[.slice a16 ((List.replicate (Int.toNat p1_0) ([] : List Int))).length c16, .slice a12 ((List.replicate (Int.toNat x10) ([] : List Int))).length c12, .int .i64 0, .int .i64 0]) rfl rfl rfl rfl hr18 ?_
          refine ⟨.inl rfl, ?_⟩
          have hst := Stp.ev' (ls := [B16, [b14], B12, [b7], [b5], [b3], M]) he18 (mem_flat 1 rfl)
          replace hs_p0_0 := hs_p0_0.step hst
          replace hs_p1_1 := hs_p1_1.step hst
          replace hb3 := he18.box hb3 (hms.apart 5 1 rfl rfl rfl _ (List.mem_singleton.2 rfl))
          replace hb5 := he18.box hb5 (hms.apart 4 1 rfl rfl rfl _ (List.mem_singleton.2 rfl))
          replace hb7 := he18.box hb7 (hms.apart 3 1 rfl rfl rfl _ (List.mem_singleton.2 rfl))
          replace ho12 := ho12.step (plain_int _) he18 (hms.apart 2 1 rfl rfl rfl)
          replace ho16 := ho16.step (plain_int _) he18 (hms.apart 0 1 rfl rfl rfl)
          replace hms := hms.ev he18
          replace hev := hev.then he18 (fun b hb => .inr (hfr.at 1 rfl b hb))
          replace hb14 := hb18
          refine x_end rfl ?_
          refine t_stop ?_
          have hpk : MS w18 [[b3], [b5], [b7], B16, B12, [b14], M] := hms.pick [some 5, some 4, some 3, some 0, some 2, some 1, some 6] _ rfl
          have hsu : ∀ x ∈ fl [[b3], [b5], [b7], B16, B12, [b14], M], x ∈ fl [B16, [b14], B12, [b7], [b5], [b3], M] := pick_sub [some 5, some 4, some 3, some 0, some 2, some 1, some 6] _ rfl
          replace hs_p0_0 := hs_p0_0.sub hsu
          replace hs_p1_1 := hs_p1_1.sub hsu
          replace hms := hpk
          replace hfr : FR w.heap.size [[b3], [b5], [b7], B16, B12, [b14]] := hfr.pick [some 5, some 4, some 3, some 0, some 2, some 1] _ rfl
          clear hpk hsu
          exact k_then ⟨((List.replicate (Int.toNat x10) ([] : List Int)), b14, a16, c16, B16, a12, c12, B12), ⟨rfl, rfl, rfl, rfl, rfl, trivial⟩, h, hev, hms, hfr, hs_p0_0, hb3, hs_p1_1, hb5, hb7, ho16, ho12, hb14⟩
        exact t_none
      refine t_alt _ rfl ?_ ?_
      · refine x_alloc (z := .agg #[.slice none 0 0, .slice none 0 0, .int .i64 0, .int .i64 0]) rfl rfl (by kernel_rfl) (fun b12 w12 hq12 hb12 he12 _ => ?_)
        replace hb12 : w12.heap[b12]? = some (.cells #[.slice none 0 0, .slice none 0 0, .int .i64 0, .int .i64 0] 85 (0, 0)) := hb12
        refine ⟨.inr he12, ?_⟩
        have hst := Stp.box (ls := [[b7], [b5], [b3], M]) he12 hq12
        replace hs_p0_0 := hs_p0_0.step hst
        replace hs_p1_1 := hs_p1_1.step hst
        replace hb3 := he12.box hb3 nn
        replace hb5 := he12.box hb5 nn
        replace hb7 := he12.box hb7 nn
        replace hms := hms.box he12 hq12 hb12
        replace hfr := hfr.box hev.size hq12
        replace hev := hev.ext he12
        refine x_end rfl ?_
        refine t_alt _ rfl ?_ ?_
        · have hg := guard_l h
          replace h := guard_r h
          obtain ⟨a14, c14, w14, B14, hr14, he14, hn14, ho14⟩ := OwnR.mk (P := Try.prog) (T := 3) (eInt .i64) tel32 w12 p1_0 hg.1 hg.2
          refine x_makeSlice _ w14 (xv := .int .i64 p1_0) (yv := .int .i64 p1_0) rfl rfl rfl rfl hr14 ?_
          refine ⟨.inr he14, ?_⟩
          have hst := Stp.push (ls := [[b12], [b7], [b5], [b3], M]) (l := B14) he14 (fun _ h => by cases h) (fun b hb => (hn14 b hb).1)
          replace hs_p0_0 := hs_p0_0.step hst
          replace hs_p1_1 := hs_p1_1.step hst
          replace hb3 := he14.box hb3 nn
          replace hb5 := he14.box hb5 nn
          replace hb7 := he14.box hb7 nn
          replace hb12 := he14.box hb12 nn
          replace hms := hms.push he14 hn14
          replace hfr := hfr.push (fun b hb => Nat.le_trans hev.size (hn14 b hb).1)
          replace hev := hev.ext he14
          have hg := guard_l h
          replace h := guard_r h
          obtain ⟨a16, c16, w16, B16, hr16, he16, hn16, ho16⟩ := OwnR.mk (P := Try.prog) (T := 3) (eInt .i64) tel32 w14 x10 hg.1 hg.2
          refine x_makeSlice _ w16 (xv := .int .i64 x10) (yv := .int .i64 x10) rfl rfl rfl rfl hr16 ?_
          refine ⟨.inr he16, ?_⟩
          have hst := Stp.push (ls := [B14, [b12], [b7], [b5], [b3], M]) (l := B16) he16 (fun _ h => by cases h) (fun b hb => (hn16 b hb).1)
          replace hs_p0_0 := hs_p0_0.step hst
          replace hs_p1_1 := hs_p1_1.step hst
          replace hb3 := he16.box hb3 nn
          replace hb5 := he16.box hb5 nn
          replace hb7 := he16.box hb7 nn
          replace hb12 := he16.box hb12 nn
          replace ho14 := ho14.step (plain_int _) he16 nn2
          replace hms := hms.push he16 hn16
          replace hfr := hfr.push (fun b hb => Nat.le_trans hev.size (hn16 b hb).1)
          replace hev := hev.ext he16
          refine x_build (vs := [(0, .slice a14 ((List.replicate (Int.toNat p1_0) ([] : List Int))).length c14), (1, .slice a16 ((List.replicate (Int.toNat x10) ([] : List Int))).length c16)]) (.agg #[.slice a14 ((List.replicate (Int.toNat p1_0) ([] : List Int))).length c14, .slice a16 ((List.replicate (Int.toNat x10) ([] : List Int))).length c16, .int .i64 0, .int .i64 0]) rfl rfl rfl (fun _ _ => by kernel_rfl) ?_
          obtain ⟨w18, hr18, hb18, he18⟩ := store_boxagg 0 [.slice a14 ((List.replicate (Int.toNat p1_0) ([] : List Int))).length c14, .slice a16 ((List.replicate (Int.toNat x10) ([] : List Int))).length c16, .int .i64 0, .int .i64 0] #[.slice a14 ((List.replicate (Int.toNat p1_0) ([] : List Int))).length c14, .slice a16 ((List.replicate (Int.toNat x10) ([] : List Int))).length c16, .int .i64 0, .int .i64 0] tagg85 hb12 rfl rfl rfl
          refine x_store w18 (xv := .pointer (some ⟨b12, 0, none⟩)) (yv := .agg #[.slice a14 ((List.replicate (Int.toNat p1_0) ([] : List Int))).length c14, .slice a16 ((List.replicate (Int.toNat x10) ([] : List Int))).length c16, .int .i64 0, .int .i64 0]) rfl rfl rfl rfl hr18 ?_
          refine ⟨.inl rfl, ?_⟩
          have hst := Stp.ev' (ls := [B16, B14, [b12], [b7], [b5], [b3], M]) he18 (mem_flat 2 rfl)
          replace hs_p0_0 := hs_p0_0.step hst
          replace hs_p1_1 := hs_p1_1.step hst
          replace hb3 := he18.box hb3 (hms.apart 5 2 rfl rfl rfl _ (List.mem_singleton.2 rfl))
          replace hb5 := he18.box hb5 (hms.apart 4 2 rfl rfl rfl _ (List.mem_singleton.2 rfl))
          replace hb7 := he18.box hb7 (hms.apart 3 2 rfl rfl rfl _ (List.mem_singleton.2 rfl))
          replace ho14 := ho14.step (plain_int _) he18 (hms.apart 1 2 rfl rfl rfl)
          replace ho16 := ho16.step (plain_int _) he18 (hms.apart 0 2 rfl rfl rfl)
          replace hms := hms.ev he18
          replace hev := hev.then he18 (fun b hb => .inr (hfr.at 2 rfl b hb))
          replace hb12 := hb18
          refine x_end rfl ?_
          refine t_stop ?_
          have hpk : MS w18 [[b3], [b5], [b7], B14, B16, [b12], M] := hms.pick [some 5, some 4, some 3, some 1, some 0, some 2, some 6] _ rfl
          have hsu : ∀ x ∈ fl [[b3], [b5], [b7], B14, B16, [b12], M], x ∈ fl [B16, B14, [b12], [b7], [b5], [b3], M] := pick_sub [some 5, some 4, some 3, some 1, some 0, some 2, some 6] _ rfl
          replace hs_p0_0 := hs_p0_0.sub hsu
          replace hs_p1_1 := hs_p1_1.sub hsu
          replace hms := hpk
          replace hfr : FR w.heap.size [[b3], [b5], [b7], B14, B16, [b12]] := hfr.pick [some 5, some 4, some 3, some 1, some 0, some 2] _ rfl
          clear hpk hsu
          exact k_then ⟨((List.replicate (Int.toNat x10) ([] : List Int)), b12, a14, c14, B14, a16, c16, B16), ⟨rfl, rfl, rfl, rfl, rfl, trivial⟩, h, hev, hms, hfr, hs_p0_0, hb3, hs_p1_1, hb5, hb7, ho14, ho16, hb12⟩
        refine t_alt _ rfl ?_ ?_
        · have hpg0 := guard_l h
          replace h := guard_r h
          have hpg1 := guard_l h
          replace h := guard_r h
          replace h : (if 0 ≤ x10 ∧ x10 ≤ 4294967296 then
(if 0 ≤ p1_0 ∧ p1_0 ≤ 4294967296 then
r14_At_J9 p0_0 p0_1 p1_0 p1_1 p2 (List.replicate (Int.toNat x10) ([] : List Int))
else none)
else none) = _ := (guard_i hpg1 (guard_i hpg0 h))
          clear hpg0 hpg1
          have hg := guard_l h
          replace h := guard_r h
          obtain ⟨a14, c14, w14, B14, hr14, he14, hn14, ho14⟩ := OwnR.mk (P := Try.prog) (T := 3) (eInt .i64) tel32 w12 x10 hg.1 hg.2
          refine x_makeSlice _ w14 (xv := .int .i64 x10) (yv := .int .i64 x10) rfl rfl rfl rfl hr14 ?_
          refine ⟨.inr he14, ?_⟩
          have hst := Stp.push (ls := [[b12], [b7], [b5], [b3], M]) (l := B14) he14 (fun _ h => by cases h) (fun b hb => (hn14 b hb).1)
          replace hs_p0_0 := hs_p0_0.step hst
          replace hs_p1_1 := hs_p1_1.step hst
          replace hb3 := he14.box hb3 nn
          replace hb5 := he14.box hb5 nn
          replace hb7 := he14.box hb7 nn
          replace hb12 := he14.box hb12 nn
          replace hms := hms.push he14 hn14
          replace hfr := hfr.push (fun b hb => Nat.le_trans hev.size (hn14 b hb).1)
          replace hev := hev.ext he14
          have hg := guard_l h
          replace h := guard_r h
          obtain ⟨a16, c16, w16, B16, hr16, he16, hn16, ho16⟩ := OwnR.mk (P := Try.prog) (T := 3) (eInt .i64) tel32 w14 p1_0 hg.1 hg.2
          refine x_makeSlice _ w16 (xv := .int .i64 p1_0) (yv := .int .i64 p1_0) rfl rfl rfl rfl hr16 ?_
          refine ⟨.inr he16, ?_⟩
          have hst := Stp.push (ls := [B14, [b12], [b7], [b5], [b3], M]) (l := B16) he16 (fun _ h => by cases h) (fun b hb => (hn16 b hb).1)
          replace hs_p0_0 := hs_p0_0.step hst
          replace hs_p1_1 := hs_p1_1.step hst
          replace hb3 := he16.box hb3 nn
          replace hb5 := he16.box hb5 nn
          replace hb7 := he16.box hb7 nn
          replace hb12 := he16.box hb12 nn
          replace ho14 := ho14.step (plain_int _) he16 nn2
          replace hms := hms.push he16 hn16
          replace hfr := hfr.push (fun b hb => Nat.le_trans hev.size (hn16 b hb).1)
          replace hev := hev.ext he16
          refine x_build (vs := [(0, .slice a16 ((List.replicate (Int.toNat p1_0) ([] : List Int))).length c16), (1, .slice a14 ((List.replicate (Int.toNat x10) ([] : List Int))).length c14)]) (.agg #[.slice a16 ((List.replicate (Int.toNat p1_0) ([] : List Int))).length c16, .slice a14 ((List.replicate (Int.toNat x10) ([] : List Int))).length c14, .int .i64 0, .int .i64 0]) rfl rfl rfl (fun _ _ => by kernel_rfl) ?_
          obtain ⟨w18, hr18, hb18, he18⟩ := store_boxagg 0 [.slice a16 ((List.replicate (Int.toNat p1_0) ([] : List Int))).length c16, .slice a14 ((List.replicate (Int.toNat x10) ([] : List Int))).length c14, .int .i64 0, .int .i64 0] #[.slice a16 ((List.replicate (Int.toNat p1_0) ([] : List Int))).length c16, .slice a14 ((List.replicate (Int.toNat x10) ([] : List Int))).length c14, .int .i64 0, .int .i64 0] tagg85 hb12 rfl rfl rfl
          refine x_store w18 (xv := .pointer (some ⟨b12, 0, none⟩)) (yv := .agg #[.slice a16 ((List.replicate (Int.toNat p1_0) ([] : List Int))).length c16, .slice a14 ((List.replicate (Int.toNat x10) ([] : List Int))).length c14, .int .i64 0, .int .i64 0]) rfl rfl rfl rfl hr18 ?_
          refine ⟨.inl rfl, ?_⟩
          have hst := Stp.ev' (ls := [B16, B14, [b12], [b7], [b5], [b3], M]) he18 (mem_flat 2 rfl)
          replace hs_p0_0 := hs_p0_0.step hst
          replace hs_p1_1 := hs_p1_1.step hst
          replace hb3 := he18.box hb3 (hms.apart 5 2 rfl rfl rfl _ (List.mem_singleton.2 rfl))
          replace hb5 := he18.box hb5 (hms.apart 4 2 rfl rfl rfl _ (List.mem_singleton.2 rfl))
          replace hb7 := he18.box hb7 (hms.apart 3 2 rfl rfl rfl _ (List.mem_singleton.2 rfl))
          replace ho14 := ho14.step (plain_int _) he18 (hms.apart 1 2 rfl rfl rfl)
          replace ho16 := ho16.step (plain_int _) he18 (hms.apart 0 2 rfl rfl rfl)
          replace hms := hms.ev he18
          replace hev := hev.then he18 (fun b hb => .inr (hfr.at 2 rfl b hb))
          replace hb12 := hb18
          refine x_end rfl ?_
          refine t_stop ?_
          have hpk : MS w18 [[b3], [b5], [b7], B16, B14, [b12], M] := hms.pick [some 5, some 4, some 3, some 0, some 1, some 2, some 6] _ rfl
          have hsu : ∀ x ∈ fl [[b3], [b5], [b7], B16, B14, [b12], M], x ∈ fl [B16, B14, [b12], [b7], [b5], [b3], M] := pick_sub [some 5, some 4, some 3, some 0, some 1, some 2, some 6] _ rfl
          replace hs_p0_0 := hs_p0_0.sub hsu
          replace hs_p1_1 := hs_p1_1.sub hsu
          replace hms := hpk
          replace hfr : FR w.heap.size [[b3], [b5], [b7], B16, B14, [b12]] := hfr.pick [some 5, some 4, some 3, some 0, some 1, some 2] _ rfl
          clear hpk hsu
          exact k_then ⟨((List.replicate (Int.toNat x10) ([] : List Int)), b12, a16, c16, B16, a14, c14, B14), ⟨rfl, rfl, rfl, rfl, rfl, trivial⟩, h, hev, hms, hfr, hs_p0_0, hb3, hs_p1_1, hb5, hb7, ho16, ho14, hb12⟩
        exact t_none
      exact t_none
    refine t_alt _ rfl ?_ ?_
    · refine x_alloc (z := .agg #[.slice none 0 0, .slice none 0 0, .int .i64 0, .int .i64 0]) rfl rfl (by kernel_rfl) (fun b10 w10 hq10 hb10 he10 _ => ?_)
      replace hb10 : w10.heap[b10]? = some (.cells #[.slice none 0 0, .slice none 0 0, .int .i64 0, .int .i64 0] 85 (0, 0)) := hb10
      refine ⟨.inr he10, ?_⟩
      have hst := Stp.box (ls := [[b7], [b5], [b3], M]) he10 hq10
      replace hs_p0_0 := hs_p0_0.step hst
      replace hs_p1_1 := hs_p1_1.step hst
      replace hb3 := he10.box hb3 nn
      replace hb5 := he10.box hb5 nn
      replace hb7 := he10.box hb7 nn
      replace hms := hms.box he10 hq10 hb10
      replace hfr := hfr.box hev.size hq10
      replace hev := hev.ext he10
      refine x_end rfl ?_
      refine t_alt _ rfl ?_ ?_
      · have hg := guard_l h
        replace h := guard_r h
        obtain ⟨a12, c12, w12, B12, hr12, he12, hn12, ho12⟩ := OwnR.mk (P := Try.prog) (T := 3) (eInt .i64) tel32 w10 p1_0 hg.1 hg.2
        refine x_makeSlice _ w12 (xv := .int .i64 p1_0) (yv := .int .i64 p1_0) rfl rfl rfl rfl hr12 ?_
        refine ⟨.inr he12, ?_⟩
        have hst := Stp.push (ls := [[b10], [b7], [b5], [b3], M]) (l := B12) he12 (fun _ h => by cases h) (fun b hb => (hn12 b hb).1)
        replace hs_p0_0 := hs_p0_0.step hst
        replace hs_p1_1 := hs_p1_1.step hst
        replace hb3 := he12.box hb3 nn
        replace hb5 := he12.box hb5 nn
        replace hb7 := he12.box hb7 nn
        replace hb10 := he12.box hb10 nn
        replace hms := hms.push he12 hn12
        replace hfr := hfr.push (fun b hb => Nat.le_trans hev.size (hn12 b hb).1)
        replace hev := hev.ext he12
        obtain ⟨x14, hx, h⟩ := bind_some h
        have hpk : MS w12 ([] ++ [B12, [b10], [b7], [b5], [b3], M]) := hms.pick [some 0, some 1, some 2, some 3, some 4, some 5] _ rfl
        have hsb0 : ∀ x ∈ fl ([] ++ [B12, [b10], [b7], [b5], [b3], M]), x ∈ fl [B12, [b10], [b7], [b5], [b3], M] := pick_sub [some 0, some 1, some 2, some 3, some 4, some 5] _ rfl
        have hsb : ∀ x ∈ fl ([] ++ [(fl [B12, [b10], [b7], [b5], [b3], M])]), x ∈ fl [B12, [b10], [b7], [b5], [b3], M] := fun x hx => hsb0 x (fl_unfold x hx)
        have hcall := r14_trains_w a_p0_0 c_p0_0 p0_0 p0_1 _ w12 (fl [B12, [b10], [b7], [b5], [b3], M]) (MS.fold (P := []) hpk) (hs_p0_0.sub hsb) hx
        refine x_call 52 #[] #[] [.agg #[.slice a_p0_0 (p0_0).length c_p0_0, .int .i64 p0_1]] _ rfl rfl rfl rfl hcall ?_
        rintro v w15 ⟨rfl, he15⟩
        clear hcall hx
        refine ⟨.inr he15, ?_⟩
        have hst := Stp.ext (ls := [B12, [b10], [b7], [b5], [b3], M]) he15
        replace hs_p0_0 := hs_p0_0.step hst
        replace hs_p1_1 := hs_p1_1.step hst
        replace hb3 := he15.box hb3 nn
        replace hb5 := he15.box hb5 nn
        replace hb7 := he15.box hb7 nn
        replace hb10 := he15.box hb10 nn
        replace ho12 := ho12.step (plain_int _) he15 nn2
        replace hms := hms.ev he15
        replace hev := hev.ext he15
        clear hpk hsb hsb0
        have hg := guard_l h
        replace h := guard_r h
        obtain ⟨a16, c16, w16, B16, hr16, he16, hn16, ho16⟩ := OwnR.mk (P := Try.prog) (T := 3) (eInt .i64) tel32 w15 x14 hg.1 hg.2
        refine x_makeSlice _ w16 (xv := .int .i64 x14) (yv := .int .i64 x14) rfl rfl rfl rfl hr16 ?_
        refine ⟨.inr he16, ?_⟩
        have hst := Stp.push (ls := [B12, [b10], [b7], [b5], [b3], M]) (l := B16) he16 (fun _ h => by cases h) (fun b hb => (hn16 b hb).1)
        replace hs_p0_0 := hs_p0_0.step hst
        replace hs_p1_1 := hs_p1_1.step hst
        replace hb3 := he16.box hb3 nn
        replace hb5 := he16.box hb5 nn
        replace hb7 := he16.box hb7 nn
        replace hb10 := he16.box hb10 nn
        replace ho12 := ho12.step (plain_int _) he16 nn2
        replace hms := hms.push he16 hn16
        replace hfr := hfr.push (fun b hb => Nat.le_trans hev.size (hn16 b hb).1)
        replace hev := hev.ext he16
        refine x_build (vs := [(0, .slice a12 ((List.replicate (Int.toNat p1_0) ([] : List Int))).length c12), (1, .slice a16 ((List.replicate (Int.toNat x14) ([] : List Int))).length c16)]) (.agg #[.slice a12 ((List.replicate (Int.toNat p1_0) ([] : List Int))).length c12, .slice a16 ((List.replicate (Int.toNat x14) ([] : List Int))).length c16, .int .i64 0, .int .i64 0]) rfl rfl rfl (fun _ _ => by kernel_rfl) ?_
        obtain ⟨w18, hr18, hb18, he18⟩ := store_boxagg 0 [.slice a12 ((List.replicate (Int.toNat p1_0) ([] : List Int))).length c12, .slice a16 ((List.replicate (Int.toNat x14) ([] : List Int))).length c16, .int .i64 0, .int .i64 0] #[.slice a12 ((List.replicate (Int.toNat p1_0) ([] : List Int))).length c12, .slice a16 ((List.replicate (Int.toNat x14) ([] : List Int))).length c16, .int .i64 0, .int .i64 0] tagg85 hb10 rfl rfl rfl
        refine x_store w18 (xv := .pointer (some ⟨b10, 0, none⟩)) (yv := .agg #[.slice a12 ((List.replicate (Int.toNat p1_0) ([] : List Int))).length c12, .slice a16 ((List.replicate (Int.toNat x14) ([] : List Int))).length c16, .int .i64 0, .int .i64 0]) rfl rfl rfl rfl hr18 ?_
        refine ⟨.inl rfl, ?_⟩
        have hst := Stp.ev' (ls := [B16, B12, [b10], [b7], [b5], [b3], M]) he18 (mem_flat 2 rfl)
        replace hs_p0_0 := hs_p0_0.step hst
        replace hs_p1_1 := hs_p1_1.step hst
        replace hb3 := he18.box hb3 (hms.apart 5 2 rfl rfl rfl _ (List.mem_singleton.2 rfl))
        replace hb5 := he18.box hb5 (hms.apart 4 2 rfl rfl rfl _ (List.mem_singleton.2 rfl))
        replace hb7 := he18.box hb7 (hms.apart 3 2 rfl rfl rfl _ (List.mem_singleton.2 rfl))
        replace ho12 := ho12.step (plain_int _) he18 (hms.apart 1 2 rfl rfl rfl)
        replace ho16 := ho16.step (plain_int _) he18 (hms.apart 0 2 rfl rfl rfl)
        replace hms := hms.ev he18
        replace hev := hev.then he18 (fun b hb => .inr (hfr.at 2 rfl b hb))
        replace hb10 := hb18
        refine x_end rfl ?_
        refine t_stop ?_
        have hpk : MS w18 [[b3], [b5], [b7], B12, B16, [b10], M] := hms.pick [some 5, some 4, some 3, some 1, some 0, some 2, some 6] _ rfl
        have hsu : ∀ x ∈ fl [[b3], [b5], [b7], B12, B16, [b10], M], x ∈ fl [B16, B12, [b10], [b7], [b5], [b3], M] := pick_sub [some 5, some 4, some 3, some 1, some 0, some 2, some 6] _ rfl
        replace hs_p0_0 := hs_p0_0.sub hsu
        replace hs_p1_1 := hs_p1_1.sub hsu
        replace hms := hpk
        replace hfr : FR w.heap.size [[b3], [b5], [b7], B12, B16, [b10]] := hfr.pick [some 5, some 4, some 3, some 1, some 0, some 2] _ rfl
        clear hpk hsu
        exact k_then ⟨((List.replicate (Int.toNat x14) ([] : List Int)), b10, a12, c12, B12, a16, c16, B16), ⟨rfl, rfl, rfl, rfl, rfl, trivial⟩, h, hev, hms, hfr, hs_p0_0, hb3, hs_p1_1, hb5, hb7, ho12, ho16, hb10⟩
      refine t_alt _ rfl ?_ ?_
      · have hpg0 := guard_l h
        replace h := guard_r h
        obtain ⟨x14, hpg1, h⟩ := bind_some h
        have hpg2 := guard_l h
        replace h := guard_r h
        replace h : ((r14_trains p0_0 p0_1).bind fun x12 =>
(if 0 ≤ p1_0 ∧ p1_0 ≤ 4294967296 then
(if 0 ≤ x12 ∧ x12 ≤ 4294967296 then
r14_At_J9 p0_0 p0_1 p1_0 p1_1 p2 (List.replicate (Int.toNat x12) ([] : List Int))
else none)
else none)) = _ := (bind_i hpg1 (guard_i hpg0 (guard_i hpg2 h)))
        clear hpg0 hpg1 hpg2
        obtain ⟨x12, hx, h⟩ := bind_some h
        have hpk : MS w10 ([] ++ [[b10], [b7], [b5], [b3], M]) := hms.pick [some 0, some 1, some 2, some 3, some 4] _ rfl
        have hsb0 : ∀ x ∈ fl ([] ++ [[b10], [b7], [b5], [b3], M]), x ∈ fl [[b10], [b7], [b5], [b3], M] := pick_sub [some 0, some 1, some 2, some 3, some 4] _ rfl
        have hsb : ∀ x ∈ fl ([] ++ [(fl [[b10], [b7], [b5], [b3], M])]), x ∈ fl [[b10], [b7], [b5], [b3], M] := fun x hx => hsb0 x (fl_unfold x hx)
        have hcall := r14_trains_w a_p0_0 c_p0_0 p0_0 p0_1 _ w10 (fl [[b10], [b7], [b5], [b3], M]) (MS.fold (P := []) hpk) (hs_p0_0.sub hsb) hx
        refine x_call 52 #[] #[] [.agg #[.slice a_p0_0 (p0_0).length c_p0_0, .int .i64 p0_1]] _ rfl rfl rfl rfl hcall ?_
        rintro v w13 ⟨rfl, he13⟩
        clear hcall hx
        refine ⟨.inr he13, ?_⟩
        have hst := Stp.ext (ls := [[b10], [b7], [b5], [b3], M]) he13
        replace hs_p0_0 := hs_p0_0.step hst
        replace hs_p1_1 := hs_p1_1.step hst
        replace hb3 := he13.box hb3 nn
        replace hb5 := he13.box hb5 nn
        replace hb7 := he13.box hb7 nn
        replace hb10 := he13.box hb10 nn
        replace hms := hms.ev he13
        replace hev := hev.ext he13
        clear hpk hsb hsb0
        refine x_end rfl ?_
        refine t_alt _ rfl ?_ ?_
        · have hg := guard_l h
          replace h := guard_r h
          obtain ⟨a14, c14, w14, B14, hr14, he14, hn14, ho14⟩ := OwnR.mk (P := Try.prog) (T := 3) (eInt .i64) tel32 w13 p1_0 hg.1 hg.2
          refine x_makeSlice _ w14 (xv := .int .i64 p1_0) (yv := .int .i64 p1_0) rfl rfl rfl rfl hr14 ?_
          refine ⟨.inr he14, ?_⟩
          have hst := Stp.push (ls := [[b10], [b7], [b5], [b3], M]) (l := B14) he14 (fun _ h => by cases h) (fun b hb => (hn14 b hb).1)
          replace hs_p0_0 := hs_p0_0.step hst
          replace hs_p1_1 := hs_p1_1.step hst
          replace hb3 := he14.box hb3 nn
          replace hb5 := he14.box hb5 nn
          replace hb7 := he14.box hb7 nn
          replace hb10 := he14.box hb10 nn
          replace hms := hms.push he14 hn14
          replace hfr := hfr.push (fun b hb => Nat.le_trans hev.size (hn14 b hb).1)
          replace hev := hev.ext he14
          have hg := guard_l h
          replace h := guard_r h
          obtain ⟨a16, c16, w16, B16, hr16, he16, hn16, ho16⟩ := OwnR.mk (P := Try.prog) (T := 3) (eInt .i64) tel32 w14 x12 hg.1 hg.2
          refine x_makeSlice _ w16 (xv := .int .i64 x12) (yv := .int .i64 x12) rfl rfl rfl rfl hr16 ?_
          refine ⟨.inr he16, ?_⟩
          have hst := Stp.push (ls := [B14, [b10], [b7], [b5], [b3], M]) (l := B16) he16 (fun _ h => by cases h) (fun b hb => (hn16 b hb).1)
          replace hs_p0_0 := hs_p0_0.step hst
          replace hs_p1_1 := hs_p1_1.step hst
          replace hb3 := he16.box hb3 nn
          replace hb5 := he16.box hb5 nn
          replace hb7 := he16.box hb7 nn
          replace hb10 := he16.box hb10 nn
          replace ho14 := ho14.step (plain_int _) he16 nn2
          replace hms := hms.push he16 hn16
          replace hfr := hfr.push (fun b hb => Nat.le_trans hev.size (hn16 b hb).1)
          replace hev := hev.ext he16
          refine x_build (vs := [(0, .slice a14 ((List.replicate (Int.toNat p1_0) ([] : List Int))).length c14), (1, .slice a16 ((List.replicate (Int.toNat x12) ([] : List Int))).length c16)]) (.agg #[.slice a14 ((List.replicate (Int.toNat p1_0) ([] : List Int))).length c14, .slice a16 ((List.replicate (Int.toNat x12) ([] : List Int))).length c16, .int .i64 0, .int .i64 0]) rfl rfl rfl (fun _ _ => by kernel_rfl) ?_
          obtain ⟨w18, hr18, hb18, he18⟩ := store_boxagg 0 [.slice a14 ((List.replicate (Int.toNat p1_0) ([] : List Int))).length c14, .slice a16 ((List.replicate (Int.toNat x12) ([] : List Int))).length c16, .int .i64 0, .int .i64 0] #[.slice a14 ((List.replicate (Int.toNat p1_0) ([] : List Int))).length c14, .slice a16 ((List.replicate (Int.toNat x12) ([] : List Int))).length c16, .int .i64 0, .int .i64 0] tagg85 hb10 rfl rfl rfl
          refine x_store w18 (xv := .pointer (some ⟨b10, 0, none⟩)) (yv := .agg #[.slice a14 ((List.replicate (Int.toNat p1_0) ([] : List Int))).length c14, .slice a16 ((List.replicate (Int.toNat x12) ([] : List Int))).length c16, .int .i64 0, .int .i64 0]) rfl rfl rfl rfl hr18 ?_
          refine ⟨.inl rfl, ?_⟩
          have hst := Stp.ev' (ls := [B16, B14, [b10], [b7], [b5], [b3], M]) he18 (mem_flat 2 rfl)
          replace hs_p0_0 := hs_p0_0.step hst
          replace hs_p1_1 := hs_p1_1.step hst
          replace hb3 := he18.box hb3 (hms.apart 5 2 rfl rfl rfl _ (List.mem_singleton.2 rfl))
          replace hb5 := he18.box hb5 (hms.apart 4 2 rfl rfl rfl _ (List.mem_singleton.2 rfl))
          replace hb7 := he18.box hb7 (hms.apart 3 2 rfl rfl rfl _ (List.mem_singleton.2 rfl))
          replace ho14 := ho14.step (plain_int _) he18 (hms.apart 1 2 rfl rfl rfl)
          replace ho16 := ho16.step (plain_int _) he18 (hms.apart 0 2 rfl rfl rfl)
          replace hms := hms.ev he18
          replace hev := hev.then he18 (fun b hb => .inr (hfr.at 2 rfl b hb))
          replace hb10 := hb18
          refine x_end rfl ?_
          refine t_stop ?_
          have hpk : MS w18 [[b3], [b5], [b7], B14, B16, [b10], M] := hms.pick [some 5, some 4, some 3, some 1, some 0, some 2, some 6] _ rfl
          have hsu : ∀ x ∈ fl [[b3], [b5], [b7], B14, B16, [b10], M], x ∈ fl [B16, B14, [b10], [b7], [b5], [b3], M] := pick_sub [some 5, some 4, some 3, some 1, some 0, some 2, some 6] _ rfl
          replace hs_p0_0 := hs_p0_0.sub hsu
          replace hs_p1_1 := hs_p1_1.sub hsu
          replace hms := hpk
          replace hfr : FR w.heap.size [[b3], [b5], [b7], B14, B16, [b10]] := hfr.pick [some 5, some 4, some 3, some 1, some 0, some 2] _ rfl
          clear hpk hsu
          exact k_then ⟨((List.replicate (Int.toNat x12) ([] : List Int)), b10, a14, c14, B14, a16, c16, B16), ⟨rfl, rfl, rfl, rfl, rfl, trivial⟩, h, hev, hms, hfr, hs_p0_0, hb3, hs_p1_1, hb5, hb7, ho14, ho16, hb10⟩
        refine t_alt _ rfl ?_ ?_
        · have hpg0 := guard_l h
          replace h := guard_r h
          have hpg1 := guard_l h
          replace h := guard_r h
          replace h : (if 0 ≤ x12 ∧ x12 ≤ 4294967296 then
(if 0 ≤ p1_0 ∧ p1_0 ≤ 4294967296 then
r14_At_J9 p0_0 p0_1 p1_0 p1_1 p2 (List.replicate (Int.toNat x12) ([] : List Int))
else none)
else none) = _ := (guard_i hpg1 (guard_i hpg0 h))
          clear hpg0 hpg1
          have hg := guard_l h
          replace h := guard_r h
          obtain ⟨a14, c14, w14, B14, hr14, he14, hn14, ho14⟩ := OwnR.mk (P := Try.prog) (T := 3) (eInt .i64) tel32 w13 x12 hg.1 hg.2
          refine x_makeSlice _ w14 (xv := .int .i64 x12) (yv := .int .i64 x12) rfl rfl rfl rfl hr14 ?_
          refine ⟨.inr he14, ?_⟩
          have hst := Stp.push (ls := [[b10], [b7], [b5], [b3], M]) (l := B14) he14 (fun _ h => by cases h) (fun b hb => (hn14 b hb).1)
          replace hs_p0_0 := hs_p0_0.step hst
          replace hs_p1_1 := hs_p1_1.step hst
          replace hb3 := he14.box hb3 nn
          replace hb5 := he14.box hb5 nn
          replace hb7 := he14.box hb7 nn
          replace hb10 := he14.box hb10 nn
          replace hms := hms.push he14 hn14
          replace hfr := hfr.push (fun b hb => Nat.le_trans hev.size (hn14 b hb).1)
          replace hev := hev.ext he14
          have hg := guard_l h
          replace h := guard_r h
          obtain ⟨a16, c16, w16, B16, hr16, he16, hn16, ho16⟩ := OwnR.mk (P := Try.prog) (T := 3) (eInt .i64) tel32 w14 p1_0 hg.1 hg.2
          refine x_makeSlice _ w16 (xv := .int .i64 p1_0) (yv := .int .i64 p1_0) rfl rfl rfl rfl hr16 ?_
          refine ⟨.inr he16, ?_⟩
          have hst := Stp.push (ls := [B14, [b10], [b7], [b5], [b3], M]) (l := B16) he16 (fun _ h => by cases h) (fun b hb => (hn16 b hb).1)
          replace hs_p0_0 := hs_p0_0.step hst
          replace hs_p1_1 := hs_p1_1.step hst
          replace hb3 := he16.box hb3 nn
          replace hb5 := he16.box hb5 nn
          replace hb7 := he16.box hb7 nn
          replace hb10 := he16.box hb10 nn
          replace ho14 := ho14.step (plain_int _) he16 nn2
          replace hms := hms.push he16 hn16
          replace hfr := hfr.push (fun b hb => Nat.le_trans hev.size (hn16 b hb).1)
          replace hev := hev.ext he16
          refine x_build (vs := [(0, .slice a16 ((List.replicate (Int.toNat p1_0) ([] : List Int))).length c16), (1, .slice a14 ((List.replicate (Int.toNat x12) ([] : List Int))).length c14)]) (.agg #[.slice a16 ((List.replicate (Int.toNat p1_0) ([] : List Int))).length c16, .slice a14 ((List.replicate (Int.toNat x12) ([] : List Int))).length c14, .int .i64 0, .int .i64 0]) rfl rfl rfl (fun _ _ => by kernel_rfl) ?_
          obtain ⟨w18, hr18, hb18, he18⟩ := store_boxagg 0 [.slice a16 ((List.replicate (Int.toNat p1_0) ([] : List Int))).length c16, .slice a14 ((List.replicate (Int.toNat x12) ([] : List Int))).length c14, .int .i64 0, .int .i64 0] #[.slice a16 ((List.replicate (Int.toNat p1_0) ([] : List Int))).length c16, .slice a14 ((List.replicate (Int.toNat x12) ([] : List Int))).length c14, .int .i64 0, .int .i64 0] tagg85 hb10 rfl rfl rfl
          refine x_store w18 (xv := .pointer (some ⟨b10, 0, none⟩)) (yv := .agg #[.slice a16 ((List.replicate (Int.toNat p1_0) ([] : List Int))).length c16, .slice a14 ((List.replicate (Int.toNat x12) ([] : List Int))).length c14, .int .i64 0, .int .i64 0]) rfl rfl rfl rfl hr18 ?_
          refine ⟨.inl rfl, ?_⟩
          have hst := Stp.ev' (ls := [B16, B14, [b10], [b7], [b5], [b3], M]) he18 (mem_flat 2 rfl)
          replace hs_p0_0 := hs_p0_0.step hst
          replace hs_p1_1 := hs_p1_1.step hst
          replace hb3 := he18.box hb3 (hms.apart 5 2 rfl rfl rfl _ (List.mem_singleton.2 rfl))
          replace hb5 := he18.box hb5 (hms.apart 4 2 rfl rfl rfl _ (List.mem_singleton.2 rfl))
          replace hb7 := he18.box hb7 (hms.apart 3 2 rfl rfl rfl _ (List.mem_singleton.2 rfl))
          replace ho14 := ho14.step (plain_int _) he18 (hms.apart 1 2 rfl rfl rfl)
          replace ho16 := ho16.step (plain_int _) he18 (hms.apart 0 2 rfl rfl rfl)
          replace hms := hms.ev he18
          replace hev := hev.then he18 (fun b hb => .inr (hfr.at 2 rfl b hb))
          replace hb10 := hb18
          refine x_end rfl ?_
          refine t_stop ?_
          have hpk : MS w18 [[b3], [b5], [b7], B16, B14, [b10], M] := hms.pick [some 5, some 4, some 3, some 0, some 1, some 2, some 6] _ rfl
          have hsu : ∀ x ∈ fl [[b3], [b5], [b7], B16, B14, [b10], M], x ∈ fl [B16, B14, [b10], [b7], [b5], [b3], M] := pick_sub [some 5, some 4, some 3, some 0, some 1, some 2, some 6] _ rfl
          replace hs_p0_0 := hs_p0_0.sub hsu
          replace hs_p1_1 := hs_p1_1.sub hsu
          replace hms := hpk
          replace hfr : FR w.heap.size [[b3], [b5], [b7], B16, B14, [b10]] := hfr.pick [some 5, some 4, some 3, some 0, some 1, some 2] _ rfl
          clear hpk hsu
          exact k_then ⟨((List.replicate (Int.toNat x12) ([] : List Int)), b10, a16, c16, B16, a14, c14, B14), ⟨rfl, rfl, rfl, rfl, rfl, trivial⟩, h, hev, hms, hfr, hs_p0_0, hb3, hs_p1_1, hb5, hb7, ho16, ho14, hb10⟩
        exact t_none
      exact t_none
    exact t_none
  rintro ⟨d15_j9, b17_j9, a11_j9, c11_j9, B11_j9, a15_j9, c15_j9, B15_j9⟩ J wj9 ⟨h, hev, hms, hfr, hs_p0_0, hb3, hs_p1_1, hb5, hb7, hj11_j9, hj15_j9, hb17_j9⟩
  refine c_seq ?_
  refine c_seq (c_plain ?_)
  refine x_pure 1 [(8, .int .i64 0)] _ _ _ (by kernel_rfl) ?_
  refine x_end rfl (k_then ?_)
  refine c_norm [(2, .int .i64 p2), (3, .pointer (some ⟨b3, 0, none⟩)), (4, .pointer (some ⟨b5, 0, none⟩)), (6, .pointer (some ⟨b7, 0, none⟩)), (7, .pointer (some ⟨b17_j9, 0, none⟩)), (8, .int .i64 0)] ⟨rfl, rfl, rfl, rfl, rfl, rfl, trivial⟩ (fun J => ?_)
  refine c_block ?_
  obtain ⟨d10, hd10, h10⟩ := bind_some h
  obtain ⟨m10, hd10⟩ := loop_some hd10
  refine c_loop (loop_rule hmx (σ := Nat × (List (List Int)) × (List (List Int)) × Int × Int × Int × Option Addr × Nat × List Nat × Option Addr × Nat × List Nat) (fun s => match s with | (_, d11_l10, d15_l10, e17_l10_2, e17_l10_3, i_s8_l10, a11_l10, c11_l10, B11_l10, a15_l10, c15_l10, B15_l10) => [(2, .int .i64 p2), (3, .pointer (some ⟨b3, 0, none⟩)), (4, .pointer (some ⟨b5, 0, none⟩)), (6, .pointer (some ⟨b7, 0, none⟩)), (7, .pointer (some ⟨b17_j9, 0, none⟩)), (8, .int .i64 i_s8_l10)]) (fun s w' => match s with | (m, d11_l10, d15_l10, e17_l10_2, e17_l10_3, i_s8_l10, a11_l10, c11_l10, B11_l10, a15_l10, c15_l10, B15_l10) => loopN (r14_At_L10 p0_0 p0_1 p1_0 p1_1 p2) m (d11_l10, d15_l10, e17_l10_2, e17_l10_3, i_s8_l10) = some d10 ∧ Ev [] w w' ∧ MS w' [[b3], [b5], [b7], B11_l10, B15_l10, [b17_j9], M] ∧ FR w.heap.size [[b3], [b5], [b7], B11_l10, B15_l10, [b17_j9]] ∧ SlR (eProd (eInt .i64) (eProd (eInt .i64) (eProd (eInt .i64) (eInt .i64)))) w' (fl [[b3], [b5], [b7], B11_l10, B15_l10, [b17_j9], M]) a_p0_0 c_p0_0 p0_0 ∧ w'.heap[b3]? = some (.cells #[.slice a_p0_0 (p0_0).length c_p0_0, .int .i64 p0_1] 27 (0, 0)) ∧ SlR (eInt .i64) w' (fl [[b3], [b5], [b7], B11_l10, B15_l10, [b17_j9], M]) a_p1_1 c_p1_1 p1_1 ∧ w'.heap[b5]? = some (.cells #[.int .i64 p1_0, .slice a_p1_1 (p1_1).length c_p1_1] 30 (0, 0)) ∧ w'.heap[b7]? = some (.cells #[.slice none 0 0, .slice none 0 0, .int .i64 0, .int .i64 0] 85 (0, 0)) ∧ OwnR (eInt .i64) 3 22 w' B11_l10 a11_l10 c11_l10 d11_l10 none ∧ OwnR (eInt .i64) 3 22 w' B15_l10 a15_l10 c15_l10 d15_l10 none ∧ w'.heap[b17_j9]? = some (.cells #[.slice a11_l10 (d11_l10).length c11_l10, .slice a15_l10 (d15_l10).length c15_l10, .int .i64 e17_l10_2, .int .i64 e17_l10_3] 85 (0, 0))) (fun s => s.1) (m10, (List.replicate (Int.toNat p1_0) ([] : List Int)), d15_j9, 0, 0, 0, a11_j9, c11_j9, B11_j9, a15_j9, c15_j9, B15_j9) ⟨rfl, rfl, rfl, rfl, rfl, rfl, trivial⟩ ⟨hd10, hev, hms, hfr, hs_p0_0, hb3, hs_p1_1, hb5, hb7, hj11_j9, hj15_j9, hb17_j9⟩ ?_)
  rintro ⟨m10, d11_l10, d15_l10, e17_l10_2, e17_l10_3, i_s8_l10, a11_l10, c11_l10, B11_l10, a15_l10, c15_l10, B15_l10⟩ J wl10 ⟨hn10, hev, hms, hfr, hs_p0_0, hb3, hs_p1_1, hb5, hb7, hj11_j9, hj15_j9, hb17_j9⟩
  rcases m10 with _ | m10
  · exact (loopN_zero hn10).elim
  obtain ⟨t10, h, hn10⟩ := bind_some hn10
  refine c_seq ?_
  refine c_seq (c_plain ?_)
  refine x_pure 3 [(20, .int .i64 i_s8_l10), (21, .int .i64 p2), (22, .bool (decide (i_s8_l10 ≤ p2)))] _ _ _ (by kernel_rfl) ?_
  refine x_end rfl (k_then ?_)
  refine c_norm [(2, .int .i64 p2), (3, .pointer (some ⟨b3, 0, none⟩)), (4, .pointer (some ⟨b5, 0, none⟩)), (6, .pointer (some ⟨b7, 0, none⟩)), (7, .pointer (some ⟨b17_j9, 0, none⟩)), (8, .int .i64 i_s8_l10), (22, .bool (decide (i_s8_l10 ≤ p2)))] ⟨rfl, rfl, rfl, rfl, rfl, rfl, rfl, trivial⟩ (fun J => ?_)
  refine c_cond (decide (i_s8_l10 ≤ p2)) rfl (fun hb => ?_) (fun hb => ?_)
  · replace h := ite_t hb h
    refine c_skip ?_
    refine k_then ?_
    refine c_seq ?_
    refine c_block ?_
    refine c_seq (c_plain ?_)
    refine x_fieldAddr (xv := .pointer (some ⟨b17_j9, 0, none⟩)) (.pointer (some ⟨b17_j9, 2, none⟩)) rfl rfl rfl (reads_field tfld85_2 _ _) ?_
    refine x_load (xv := .pointer (some ⟨b17_j9, 2, none⟩)) (.int .i64 e17_l10_2) rfl rfl rfl (reads_box tcell3 hb17_j9 nn 2 _ rfl) ?_
    refine x_pure 1 [(9, .int .i64 e17_l10_2)] _ _ _ (by kernel_rfl) ?_
    refine x_end rfl (k_then ?_)
    refine c_join (σ := (List (List Int)) × (List (List Int)) × Int × Option Addr × Nat × List Nat × Option Addr × Nat × List Nat) (fun s => match s with | (d11_j12, d15_j12, e17_j12_2, a11_j12, c11_j12, B11_j12, a15_j12, c15_j12, B15_j12) => [(2, .int .i64 p2), (3, .pointer (some ⟨b3, 0, none⟩)), (4, .pointer (some ⟨b5, 0, none⟩)), (6, .pointer (some ⟨b7, 0, none⟩)), (7, .pointer (some ⟨b17_j9, 0, none⟩)), (8, .int .i64 i_s8_l10), (9, .int .i64 e17_l10_2)]) (fun s w' => match s with | (d11_j12, d15_j12, e17_j12_2, a11_j12, c11_j12, B11_j12, a15_j12, c15_j12, B15_j12) => r14_At_J12 p0_0 p0_1 p1_0 p1_1 e17_l10_2 e17_l10_3 i_s8_l10 d11_j12 d15_j12 e17_j12_2 = some t10 ∧ Ev [] w w' ∧ MS w' [[b3], [b5], [b7], B11_j12, B15_j12, [b17_j9], M] ∧ FR w.heap.size [[b3], [b5], [b7], B11_j12, B15_j12, [b17_j9]] ∧ SlR (eProd (eInt .i64) (eProd (eInt .i64) (eProd (eInt .i64) (eInt .i64)))) w' (fl [[b3], [b5], [b7], B11_j12, B15_j12, [b17_j9], M]) a_p0_0 c_p0_0 p0_0 ∧ w'.heap[b3]? = some (.cells #[.slice a_p0_0 (p0_0).length c_p0_0, .int .i64 p0_1] 27 (0, 0)) ∧ SlR (eInt .i64) w' (fl [[b3], [b5], [b7], B11_j12, B15_j12, [b17_j9], M]) a_p1_1 c_p1_1 p1_1 ∧ w'.heap[b5]? = some (.cells #[.int .i64 p1_0, .slice a_p1_1 (p1_1).length c_p1_1] 30 (0, 0)) ∧ w'.heap[b7]? = some (.cells #[.slice none 0 0, .slice none 0 0, .int .i64 0, .int .i64 0] 85 (0, 0)) ∧ OwnR (eInt .i64) 3 22 w' B11_j12 a11_j12 c11_j12 d11_j12 none ∧ OwnR (eInt .i64) 3 22 w' B15_j12 a15_j12 c15_j12 d15_j12 none ∧ w'.heap[b17_j9]? = some (.cells #[.slice a11_j12 (d11_j12).length c11_j12, .slice a15_j12 (d15_j12).length c15_j12, .int .i64 e17_j12_2, .int .i64 e17_l10_3] 85 (0, 0))) ?_ ?_
    · refine c_seq (c_plain ?_)
      refine x_pure 2 [(27, .int .i64 i_s8_l10), (28, .bool (decide (i_s8_l10 > 0)))] _ _ _ (by kernel_rfl) ?_
      refine x_end rfl (k_then ?_)
      refine c_cond (decide (i_s8_l10 > 0)) rfl (fun hb => ?_) (fun hb => ?_)
      · replace h := ite_t hb h
        refine c_seq (c_plain ?_)
        refine x_fieldAddr (xv := .pointer (some ⟨b17_j9, 0, none⟩)) (.pointer (some ⟨b17_j9, 0, none⟩)) rfl rfl rfl (reads_field tfld85_0 _ _) ?_
        refine x_load (xv := .pointer (some ⟨b17_j9, 0, none⟩)) (.slice a11_l10 (d11_l10).length c11_l10) rfl rfl rfl (reads_box tcell32 hb17_j9 nn 0 _ rfl) ?_
        refine x_pure 2 [(31, .int .i64 i_s8_l10), (32, .int .i64 (IntKind.i64.wrap (i_s8_l10 - 1)))] _ _ _ (by kernel_rfl) ?_
        obtain ⟨x13, hx13, h⟩ := bind_some h
        obtain ⟨g13, ai13, ci13, hr13, hv13⟩ := OwnR.view (P := Try.prog) (Mo := []) tsl32 hj11_j9 hx13
        refine x_indexAddr (xv := .slice a11_l10 (d11_l10).length c11_l10) (yv := .int .i64 (IntKind.i64.wrap (i_s8_l10 - 1))) (.pointer (some ⟨g13, (Int.toNat (IntKind.i64.wrap (i_s8_l10 - 1))), none⟩)) rfl rfl rfl rfl hr13 ?_
        refine x_load (xv := .pointer (some ⟨g13, (Int.toNat (IntKind.i64.wrap (i_s8_l10 - 1))), none⟩)) (.slice ai13 (x13).length ci13) rfl rfl rfl (RView.load tcell22 hv13) ?_
        refine x_pure 1 [(10, .slice ai13 (x13).length ci13)] _ _ _ (by kernel_rfl) ?_
        refine x_end rfl (k_then ?_)
        refine c_norm [(2, .int .i64 p2), (3, .pointer (some ⟨b3, 0, none⟩)), (4, .pointer (some ⟨b5, 0, none⟩)), (6, .pointer (some ⟨b7, 0, none⟩)), (7, .pointer (some ⟨b17_j9, 0, none⟩)), (8, .int .i64 i_s8_l10), (9, .int .i64 e17_l10_2), (10, .slice ai13 (x13).length ci13)] ⟨rfl, rfl, rfl, rfl, rfl, rfl, rfl, rfl, trivial⟩ (fun J => ?_)
        refine c_seq (c_plain ?_)
        refine x_fieldAddr (xv := .pointer (some ⟨b17_j9, 0, none⟩)) (.pointer (some ⟨b17_j9, 0, none⟩)) rfl rfl rfl (reads_field tfld85_0 _ _) ?_
        refine x_load (xv := .pointer (some ⟨b17_j9, 0, none⟩)) (.slice a11_l10 (d11_l10).length c11_l10) rfl rfl rfl (reads_box tcell32 hb17_j9 nn 0 _ rfl) ?_
        refine x_pure 2 [(37, .int .i64 i_s8_l10), (38, .int .i64 (IntKind.i64.wrap (i_s8_l10 - 1)))] _ _ _ (by kernel_rfl) ?_
        obtain ⟨x15, hx15, h⟩ := bind_some h
        obtain ⟨g15, ai15, ci15, hr15, hv15⟩ := OwnR.view (P := Try.prog) (Mo := []) tsl32 hj11_j9 hx15
        refine x_indexAddr (xv := .slice a11_l10 (d11_l10).length c11_l10) (yv := .int .i64 (IntKind.i64.wrap (i_s8_l10 - 1))) (.pointer (some ⟨g15, (Int.toNat (IntKind.i64.wrap (i_s8_l10 - 1))), none⟩)) rfl rfl rfl rfl hr15 ?_
        obtain ⟨B17, hR17, ho17, hs1, hs2, hs3⟩ := OwnR.opn hj11_j9 hv13
        replace hj11_j9 := hR17
        have hms2 := hms.split 3 rfl hs2 hs1 hs3
        have hsu : ∀ x ∈ fl [blk ai13, [b3], [b5], [b7], B17, B15_l10, [b17_j9], M], x ∈ fl [[b3], [b5], [b7], B11_l10, B15_l10, [b17_j9], M] := split_sub (ls := [[b3], [b5], [b7], B11_l10, B15_l10, [b17_j9], M]) 3 rfl hs2 hs1
        replace hms : MS wl10 [blk ai13, [b3], [b5], [b7], B17, B15_l10, [b17_j9], M] := hms2
        replace hfr : FR w.heap.size [blk ai13, [b3], [b5], [b7], B17, B15_l10, [b17_j9]] := (hfr.upd 3 rfl hev.size (fun b hb => .inl (hs1 b hb))).push (fun b hb => hfr.at 3 rfl b (hs2 b hb))
        replace hs_p0_0 := hs_p0_0.sub hsu
        replace hs_p1_1 := hs_p1_1.sub hsu
        replace ho17 := OwnS.plain (M' := fl [blk ai13, [b3], [b5], [b7], B17, B15_l10, [b17_j9], M]) (plain_int _) ho17
        have hg17 := hv13.eq
        have hx17 := hv13.at_
        clear hv13 hms2 hs1 hs2 hs3 hsu
        have hg17_16 := hv15.eq
        have hx17_16 := hv15.at_
        clear hv15
        obtain ⟨w19, B19, hr19, he19, hn19, hR19⟩ := OwnR.cls (P := Try.prog) (plain_int _) tcell22 hj11_j9 hg17_16 hx17_16 (OwnS.nil (eInt .i64) 3 wl10 []) (fun x hx => by cases hx) (hms.ltat 4 rfl)
        refine x_store w19 (xv := .pointer (some ⟨g15, (Int.toNat (IntKind.i64.wrap (i_s8_l10 - 1))), none⟩)) (yv := .slice none 0 0) rfl rfl rfl rfl hr19 ?_
        refine ⟨.inl rfl, ?_⟩
        have hst : Stp (fl [blk ai13, [b3], [b5], [b7], B17, B15_l10, [b17_j9], M]) wl10 (fl [blk ai13, [b3], [b5], [b7], B19, B15_l10, [b17_j9], M]) w19 := Stp.upd 4 he19 rfl (fun b hb => (hn19 b hb).1)
        replace hb3 := he19.box hb3 (hms.apart 1 4 rfl rfl rfl _ (List.mem_singleton.2 rfl))
        replace hs_p0_0 := hs_p0_0.step hst
        replace hb5 := he19.box hb5 (hms.apart 2 4 rfl rfl rfl _ (List.mem_singleton.2 rfl))
        replace hs_p1_1 := hs_p1_1.step hst
        replace hb7 := he19.box hb7 (hms.apart 3 4 rfl rfl rfl _ (List.mem_singleton.2 rfl))
        replace hb17_j9 := he19.box hb17_j9 (hms.apart 6 4 rfl rfl rfl _ (List.mem_singleton.2 rfl))
        replace hj15_j9 := hj15_j9.step (plain_int _) he19 (hms.apart 5 4 rfl rfl rfl)
        replace ho17 := ho17.step hst he19 (hms.apart 0 4 rfl rfl rfl)
        replace hms : MS w19 [blk ai13, [b3], [b5], [b7], B19, B15_l10, [b17_j9], M] := hms.upd 4 he19 rfl hn19
        have hfr2 : FR w.heap.size [blk ai13, [b3], [b5], [b7], B19, B15_l10, [b17_j9]] := hfr.upd 4 rfl hev.size (fun b hb => (hn19 b hb).1)
        replace hev := hev.then he19 (fun b hb => .inr (hfr.at 4 rfl b hb))
        replace hfr := hfr2
        clear hfr2
        replace hj11_j9 := hR19
        have hsl : (Value.slice a11_l10 (d11_l10).length c11_l10) = (Value.slice a11_l10 ((d11_l10.set (Int.toNat (IntKind.i64.wrap (i_s8_l10 - 1))) ([] : List Int))).length c11_l10) := by rw [List.length_set]
        rw [hsl] at hb17_j9
        try rw [hsl]
        clear hsl
        refine x_end rfl (k_then ?_)
        refine c_seq (c_plain ?_)
        refine x_pure 1 [(11, .int .i64 0)] _ _ _ (by kernel_rfl) ?_
        refine x_end rfl (k_then ?_)
        refine c_block ?_
        have hpk : MS w19 [[b3], [b5], [b7], B19, B15_l10, [b17_j9], blk ai13, M] := hms.pick [some 1, some 2, some 3, some 4, some 5, some 6, some 0, some 7] _ rfl
        have hsu : ∀ x ∈ fl [[b3], [b5], [b7], B19, B15_l10, [b17_j9], blk ai13, M], x ∈ fl [blk ai13, [b3], [b5], [b7], B19, B15_l10, [b17_j9], M] := pick_sub [some 1, some 2, some 3, some 4, some 5, some 6, some 0, some 7] _ rfl
        replace hs_p0_0 := hs_p0_0.sub hsu
        replace hs_p1_1 := hs_p1_1.sub hsu
        replace ho17 := ho17.sub hsu
        replace hms := hpk
        replace hfr : FR w.heap.size [[b3], [b5], [b7], B19, B15_l10, [b17_j9], blk ai13] := hfr.pick [some 1, some 2, some 3, some 4, some 5, some 6, some 0] _ rfl
        clear hpk hsu
        obtain ⟨d20, hd20, h20⟩ := bind_some h
        obtain ⟨m20, hd20⟩ := loop_some hd20
        refine c_loop (loop_rule hmx (σ := Nat × (List (List Int)) × (List (List Int)) × Int × Int × Option Addr × Nat × List Nat × Option Addr × Nat × List Nat × Option Addr) (fun s => match s with | (_, d11_l20, d15_l20, e17_l20_2, k_s11_l20, a11_l20, c11_l20, B11_l20, a15_l20, c15_l20, B15_l20, a18_l20) => [(2, .int .i64 p2), (3, .pointer (some ⟨b3, 0, none⟩)), (4, .pointer (some ⟨b5, 0, none⟩)), (6, .pointer (some ⟨b7, 0, none⟩)), (7, .pointer (some ⟨b17_j9, 0, none⟩)), (8, .int .i64 i_s8_l10), (9, .int .i64 e17_l10_2), (10, .slice a18_l20 (x13).length ci13), (11, .int .i64 k_s11_l20)]) (fun s w' => match s with | (m, d11_l20, d15_l20, e17_l20_2, k_s11_l20, a11_l20, c11_l20, B11_l20, a15_l20, c15_l20, B15_l20, a18_l20) => loopN (r14_At_L20 p0_0 p0_1 p1_0 p1_1 e17_l10_3 i_s8_l10 x13) m (d11_l20, d15_l20, e17_l20_2, k_s11_l20) = some d20 ∧ Ev [] w w' ∧ MS w' [[b3], [b5], [b7], B11_l20, B15_l20, [b17_j9], blk a18_l20, M] ∧ FR w.heap.size [[b3], [b5], [b7], B11_l20, B15_l20, [b17_j9], blk a18_l20] ∧ SlR (eProd (eInt .i64) (eProd (eInt .i64) (eProd (eInt .i64) (eInt .i64)))) w' (fl [[b3], [b5], [b7], B11_l20, B15_l20, [b17_j9], blk a18_l20, M]) a_p0_0 c_p0_0 p0_0 ∧ w'.heap[b3]? = some (.cells #[.slice a_p0_0 (p0_0).length c_p0_0, .int .i64 p0_1] 27 (0, 0)) ∧ SlR (eInt .i64) w' (fl [[b3], [b5], [b7], B11_l20, B15_l20, [b17_j9], blk a18_l20, M]) a_p1_1 c_p1_1 p1_1 ∧ w'.heap[b5]? = some (.cells #[.int .i64 p1_0, .slice a_p1_1 (p1_1).length c_p1_1] 30 (0, 0)) ∧ w'.heap[b7]? = some (.cells #[.slice none 0 0, .slice none 0 0, .int .i64 0, .int .i64 0] 85 (0, 0)) ∧ OwnR (eInt .i64) 3 22 w' B11_l20 a11_l20 c11_l20 d11_l20 none ∧ OwnR (eInt .i64) 3 22 w' B15_l20 a15_l20 c15_l20 d15_l20 none ∧ w'.heap[b17_j9]? = some (.cells #[.slice a11_l20 (d11_l20).length c11_l20, .slice a15_l20 (d15_l20).length c15_l20, .int .i64 e17_l20_2, .int .i64 e17_l10_3] 85 (0, 0)) ∧ OwnS (eInt .i64) 3 w' (fl [[b3], [b5], [b7], B11_l20, B15_l20, [b17_j9], blk a18_l20, M]) a18_l20 ci13 x13) (fun s => s.1) (m20, (d11_l10.set (Int.toNat (IntKind.i64.wrap (i_s8_l10 - 1))) ([] : List Int)), d15_l10, e17_l10_2, 0, a11_l10, c11_l10, B19, a15_l10, c15_l10, B15_l10, ai13) ⟨rfl, rfl, rfl, rfl, rfl, rfl, rfl, rfl, rfl, trivial⟩ ⟨hd20, hev, hms, hfr, hs_p0_0, hb3, hs_p1_1, hb5, hb7, hj11_j9, hj15_j9, hb17_j9, ho17⟩ ?_)
        rintro ⟨m20, d11_l20, d15_l20, e17_l20_2, k_s11_l20, a11_l20, c11_l20, B11_l20, a15_l20, c15_l20, B15_l20, a18_l20⟩ J wl20 ⟨hn20, hev, hms, hfr, hs_p0_0, hb3, hs_p1_1, hb5, hb7, hj11_j9, hj15_j9, hb17_j9, ho17⟩
        rcases m20 with _ | m20
        · exact (loopN_zero hn20).elim
        obtain ⟨t20, h, hn20⟩ := bind_some hn20
        refine c_seq ?_
        refine c_seq (c_plain ?_)
        refine x_pure 2 [(40, .int .i64 k_s11_l20), (41, .slice a18_l20 (x13).length ci13)] _ _ _ (by kernel_rfl) ?_
        refine x_len (vs := [.slice a18_l20 (x13).length ci13]) (.int .i64 ((x13).length : Int)) rfl rfl rfl (reads_len tsl22 _ _ _ _ _) ?_
        refine x_pure 1 [(43, .bool (decide (k_s11_l20 < ((x13).length : Int))))] _ _ _ (by kernel_rfl) ?_
        refine x_end rfl (k_then ?_)
        refine c_norm [(2, .int .i64 p2), (3, .pointer (some ⟨b3, 0, none⟩)), (4, .pointer (some ⟨b5, 0, none⟩)), (6, .pointer (some ⟨b7, 0, none⟩)), (7, .pointer (some ⟨b17_j9, 0, none⟩)), (8, .int .i64 i_s8_l10), (9, .int .i64 e17_l10_2), (10, .slice a18_l20 (x13).length ci13), (11, .int .i64 k_s11_l20), (43, .bool (decide (k_s11_l20 < ((x13).length : Int))))] ⟨rfl, rfl, rfl, rfl, rfl, rfl, rfl, rfl, rfl, rfl, trivial⟩ (fun J => ?_)
        refine c_cond (decide (k_s11_l20 < ((x13).length : Int))) rfl (fun hb => ?_) (fun hb => ?_)
        · replace h := ite_t hb h
          refine c_skip ?_
          refine k_then ?_
          refine c_seq ?_
          refine c_block ?_
          refine c_drawn (fl [[b17_j9], B11_l20, B15_l20]) [(0, false), (1, false), (2, false), (3, false), (4, false), (5, false), (6, false), (7, false)] _ (by kernel_rfl) rfl ?_
          have hst := Stp.ext (ls := [[b3], [b5], [b7], B11_l20, B15_l20, [b17_j9], blk a18_l20, M]) (Ev.drew wl20)
          replace hb3 := (Ev.drew wl20).box hb3 nn
          replace hs_p0_0 := hs_p0_0.step hst
          replace hb5 := (Ev.drew wl20).box hb5 nn
          replace hs_p1_1 := hs_p1_1.step hst
          replace hb7 := (Ev.drew wl20).box hb7 nn
          replace hb17_j9 := (Ev.drew wl20).box hb17_j9 nn
          replace hj11_j9 := hj11_j9.step (plain_int _) (Ev.drew wl20) nn2
          replace hj15_j9 := hj15_j9.step (plain_int _) (Ev.drew wl20) nn2
          replace ho17 := ho17.step hst (Ev.drew wl20) nn2
          replace hms := hms.ev (Ev.drew wl20)
          replace hev := hev.ext (Ev.drew wl20)
          refine x_load (xv := .pointer (some ⟨b3, 0, none⟩)) (.agg #[.slice a_p0_0 (p0_0).length c_p0_0, .int .i64 p0_1]) rfl rfl rfl (reads_boxagg 0 [.slice a_p0_0 (p0_0).length c_p0_0, .int .i64 p0_1] tagg27 hb3 ((MS.outs (P := [[b17_j9], B11_l20, B15_l20]) (R := [[b3]]) (hms.pick [some 5, some 3, some 4, some 0] _ rfl) 0 rfl) _ (List.mem_singleton.2 rfl)) rfl) ?_
          refine x_load (xv := .pointer (some ⟨b5, 0, none⟩)) (.agg #[.int .i64 p1_0, .slice a_p1_1 (p1_1).length c_p1_1]) rfl rfl rfl (reads_boxagg 0 [.int .i64 p1_0, .slice a_p1_1 (p1_1).length c_p1_1] tagg30 hb5 ((MS.outs (P := [[b17_j9], B11_l20, B15_l20]) (R := [[b5]]) (hms.pick [some 5, some 3, some 4, some 1] _ rfl) 0 rfl) _ (List.mem_singleton.2 rfl)) rfl) ?_
          refine x_pure 2 [(48, .slice a18_l20 (x13).length ci13), (49, .int .i64 k_s11_l20)] _ _ _ (by kernel_rfl) ?_
          obtain ⟨x22, hx22, h⟩ := bind_some h
          obtain ⟨g22, cs22, ha, hr22, hc22, hR⟩ := own_index (Mo := (fl [[b17_j9], B11_l20, B15_l20])) tsl22 ho17 hx22
          subst ha
          obtain rfl := hR
          refine x_indexAddr (xv := .slice (some ⟨g22, 0, none⟩) (x13).length ci13) (yv := .int .i64 k_s11_l20) (.pointer (some ⟨g22, (Int.toNat k_s11_l20) * (eInt .i64).n, none⟩)) rfl rfl rfl rfl hr22 ?_
          refine x_load (xv := .pointer (some ⟨g22, (Int.toNat k_s11_l20) * (eInt .i64).n, none⟩)) (.int .i64 x22) rfl rfl rfl (reads_cell0 tcell3 (CellsAt.away hc22 ((MS.outs (P := [[b17_j9], B11_l20, B15_l20]) (R := [blk (some ⟨g22, 0, none⟩)]) (hms.pick [some 5, some 3, some 4, some 6] _ rfl) 0 rfl) _ (List.mem_singleton.2 rfl))) (fun b hb => hb)) ?_
          refine x_pure 1 [(52, .int .i64 i_s8_l10)] _ _ _ (by kernel_rfl) ?_
          obtain ⟨x24, hx, h⟩ := bind_some h
          have hpk : MS (wl20).drew ([[b17_j9], B11_l20, B15_l20] ++ [[b3], [b5], [b7], blk (some ⟨g22, 0, none⟩), M]) := hms.pick [some 5, some 3, some 4, some 0, some 1, some 2, some 6, some 7] _ rfl
          have hsb0 : ∀ x ∈ fl ([[b17_j9], B11_l20, B15_l20] ++ [[b3], [b5], [b7], blk (some ⟨g22, 0, none⟩), M]), x ∈ fl [[b3], [b5], [b7], B11_l20, B15_l20, [b17_j9], blk (some ⟨g22, 0, none⟩), M] := pick_sub [some 5, some 3, some 4, some 0, some 1, some 2, some 6, some 7] _ rfl
          have hsb : ∀ x ∈ fl ([[b17_j9], B11_l20, B15_l20] ++ [(fl [[b3], [b5], [b7], blk (some ⟨g22, 0, none⟩), M])]), x ∈ fl [[b3], [b5], [b7], B11_l20, B15_l20, [b17_j9], blk (some ⟨g22, 0, none⟩), M] := fun x hx => hsb0 x (fl_unfold x hx)
          have hcall := r14_Yard_push_w b17_j9 a11_l20 c11_l20 B11_l20 d11_l20 a15_l20 c15_l20 B15_l20 d15_l20 e17_l20_2 e17_l10_3 a_p0_0 c_p0_0 p0_0 p0_1 p1_0 a_p1_1 c_p1_1 p1_1 x22 i_s8_l10 _ (wl20).drew (fl [[b3], [b5], [b7], blk (some ⟨g22, 0, none⟩), M]) (hpk.fold (P := [[b17_j9], B11_l20, B15_l20])) hj11_j9 hj15_j9 hb17_j9 (hs_p0_0.sub hsb) (hs_p1_1.sub hsb) hx
          refine x_call 61 #[] #[] [.pointer (some ⟨b17_j9, 0, none⟩), .agg #[.slice a_p0_0 (p0_0).length c_p0_0, .int .i64 p0_1], .agg #[.int .i64 p1_0, .slice a_p1_1 (p1_1).length c_p1_1], .int .i64 x22, .int .i64 i_s8_l10] _ rfl rfl rfl rfl hcall ?_
          rintro v w25 ⟨a0_25, c0_25, B2_25, a3_25, c3_25, B5_25, rfl, he25, hp25_0, hp25_1, hp25_2, hmn25, hfn25, hnp25⟩
          clear hcall hx
          refine ⟨.inr he25, ?_⟩
          have hpk2 : MS (wl20).drew ([[b17_j9], B11_l20, B15_l20] ++ [[b3], [b5], [b7], blk (some ⟨g22, 0, none⟩), M]) := hms.pick [some 5, some 3, some 4, some 0, some 1, some 2, some 6, some 7] _ rfl
          have hsb2 : ∀ x ∈ fl ([[b17_j9], B11_l20, B15_l20] ++ [[b3], [b5], [b7], blk (some ⟨g22, 0, none⟩), M]), x ∈ fl [[b3], [b5], [b7], B11_l20, B15_l20, [b17_j9], blk (some ⟨g22, 0, none⟩), M] := pick_sub [some 5, some 3, some 4, some 0, some 1, some 2, some 6, some 7] _ rfl
          have hst0 := Stp.call (LS := [[b3], [b5], [b7], B11_l20, B15_l20, [b17_j9], blk (some ⟨g22, 0, none⟩), M]) (res := []) (par := [[b17_j9], B2_25, B5_25]) (R := [[b3], [b5], [b7], blk (some ⟨g22, 0, none⟩), M]) he25 (fun b hb => hsb2 b (fl_left' (P := [[b17_j9], B11_l20, B15_l20]) b hb)) hfn25 hnp25 (fun x hx => hsb2 x (fl_right' (P := [[b17_j9], B11_l20, B15_l20]) x hx))
          have hsn : ∀ x ∈ fl [[b3], [b5], [b7], B2_25, B5_25, [b17_j9], blk (some ⟨g22, 0, none⟩), M], x ∈ fl ([] ++ ([[b17_j9], B2_25, B5_25] ++ [[b3], [b5], [b7], blk (some ⟨g22, 0, none⟩), M])) := pick_sub [some 3, some 4, some 5, some 1, some 2, some 0, some 6, some 7] _ rfl
          have hst := hst0.res hsn
          replace hb3 := he25.box hb3 ((MS.outs (P := [[b17_j9], B11_l20, B15_l20]) hpk2 0 rfl) _ (List.mem_singleton.2 rfl))
          replace hs_p0_0 := hs_p0_0.step hst
          replace hb5 := he25.box hb5 ((MS.outs (P := [[b17_j9], B11_l20, B15_l20]) hpk2 1 rfl) _ (List.mem_singleton.2 rfl))
          replace hs_p1_1 := hs_p1_1.step hst
          replace hb7 := he25.box hb7 ((MS.outs (P := [[b17_j9], B11_l20, B15_l20]) hpk2 2 rfl) _ (List.mem_singleton.2 rfl))
          replace ho17 := ho17.step hst he25 (MS.outs (P := [[b17_j9], B11_l20, B15_l20]) hpk2 3 rfl)
          replace hms : MS w25 [[b3], [b5], [b7], B2_25, B5_25, [b17_j9], blk (some ⟨g22, 0, none⟩), M] := (MS.call (P := [[b17_j9], B11_l20, B15_l20]) (R := [[b3], [b5], [b7], blk (some ⟨g22, 0, none⟩), M]) (res := []) (par := [[b17_j9], B2_25, B5_25]) hpk2 he25 hmn25 hfn25 hnp25).pick [some 3, some 4, some 5, some 1, some 2, some 0, some 6, some 7] _ rfl
          have hPf : ∀ b ∈ fl [[b17_j9], B11_l20, B15_l20], w.heap.size ≤ b := FR.mem (ls := [[b17_j9], B11_l20, B15_l20]) (hfr.pick [some 5, some 3, some 4] _ rfl)
          have hfr2 : FR w.heap.size [[b3], [b5], [b7], B2_25, B5_25, [b17_j9], blk (some ⟨g22, 0, none⟩)] := (FR.cons (hfr.at 0 rfl) (FR.cons (hfr.at 1 rfl) (FR.cons (hfr.at 2 rfl) (FR.cons (fun b hb => (hnp25.at 1 rfl b hb).elim (fun h => hPf b h) (fun h => Nat.le_trans hev.size h)) (FR.cons (fun b hb => (hnp25.at 2 rfl b hb).elim (fun h => hPf b h) (fun h => Nat.le_trans hev.size h)) (FR.cons (fun b hb => (hnp25.at 0 rfl b hb).elim (fun h => hPf b h) (fun h => Nat.le_trans hev.size h)) (FR.cons (hfr.at 6 rfl) (FR.nil _))))))))
          replace hev := hev.then he25 (fun b hb => .inr (hPf b hb))
          replace hfr := hfr2
          clear hfr2
          replace hb17_j9 := hp25_0
          replace hj11_j9 := hp25_1
          replace hj15_j9 := hp25_2
          clear hpk hsb hsb0 hpk2 hsb2 hst0 hsn hst
          refine x_end rfl ?_
          refine k_block ?_
          refine k_then ?_
          refine c_plain ?_
          refine x_pure 3 [(44, .int .i64 k_s11_l20), (45, .int .i64 (IntKind.i64.wrap (k_s11_l20 + 1))), (11, .int .i64 (IntKind.i64.wrap (k_s11_l20 + 1)))] _ _ _ (by kernel_rfl) ?_
          refine x_end rfl ?_
          have hx := some_inj h
          subst hx
          exact k_then ⟨(m20, x24.2.1, x24.2.2, x24.1, IntKind.i64.wrap (k_s11_l20 + 1), a0_25, c0_25, B2_25, a3_25, c3_25, B5_25, (some ⟨g22, 0, none⟩)), ⟨rfl, rfl, rfl, rfl, rfl, rfl, rfl, rfl, rfl, trivial⟩, ⟨hn20, hev, hms, hfr, hs_p0_0, hb3, hs_p1_1, hb5, hb7, hj11_j9, hj15_j9, hb17_j9, ho17⟩, Nat.lt_succ_self _⟩
        replace h := ite_f hb h
        refine c_exit ?_
        refine k_then_exit ?_
        have hx := some_inj h
        subst hx
        have hy := some_inj hn20
        subst hy
        replace h := h20
        refine k_then_exit ?_
        refine k_block_in ?_
        have hpk : MS wl20 [[b3], [b5], [b7], B11_l20, B15_l20, [b17_j9], M] := hms.pick [some 0, some 1, some 2, some 3, some 4, some 5, some 7] _ rfl
        have hsu : ∀ x ∈ fl [[b3], [b5], [b7], B11_l20, B15_l20, [b17_j9], M], x ∈ fl [[b3], [b5], [b7], B11_l20, B15_l20, [b17_j9], blk a18_l20, M] := pick_sub [some 0, some 1, some 2, some 3, some 4, some 5, some 7] _ rfl
        replace hs_p0_0 := hs_p0_0.sub hsu
        replace hs_p1_1 := hs_p1_1.sub hsu
        replace hms := hpk
        replace hfr : FR w.heap.size [[b3], [b5], [b7], B11_l20, B15_l20, [b17_j9]] := hfr.pick [some 0, some 1, some 2, some 3, some 4, some 5] _ rfl
        clear hpk hsu
        exact k_then ⟨(d11_l20, d15_l20, e17_l20_2, a11_l20, c11_l20, B11_l20, a15_l20, c15_l20, B15_l20), ⟨rfl, rfl, rfl, rfl, rfl, rfl, rfl, trivial⟩, h, hev, hms, hfr, hs_p0_0, hb3, hs_p1_1, hb5, hb7, hj11_j9, hj15_j9, hb17_j9⟩
      replace h := ite_f hb h
      refine c_skip ?_
      exact k_then ⟨(d11_l10, d15_l10, e17_l10_2, a11_l10, c11_l10, B11_l10, a15_l10, c15_l10, B15_l10), ⟨rfl, rfl, rfl, rfl, rfl, rfl, rfl, trivial⟩, h, hev, hms, hfr, hs_p0_0, hb3, hs_p1_1, hb5, hb7, hj11_j9, hj15_j9, hb17_j9⟩
    rintro ⟨d11_j12, d15_j12, e17_j12_2, a11_j12, c11_j12, B11_j12, a15_j12, c15_j12, B15_j12⟩ J wj12 ⟨h, hev, hms, hfr, hs_p0_0, hb3, hs_p1_1, hb5, hb7, hj11_j9, hj15_j9, hb17_j9⟩
    refine c_seq ?_
    refine c_seq (c_plain ?_)
    refine x_pure 1 [(12, .int .i64 0)] _ _ _ (by kernel_rfl) ?_
    refine x_end rfl (k_then ?_)
    refine c_norm [(2, .int .i64 p2), (3, .pointer (some ⟨b3, 0, none⟩)), (4, .pointer (some ⟨b5, 0, none⟩)), (6, .pointer (some ⟨b7, 0, none⟩)), (7, .pointer (some ⟨b17_j9, 0, none⟩)), (8, .int .i64 i_s8_l10), (9, .int .i64 e17_l10_2), (12, .int .i64 0)] ⟨rfl, rfl, rfl, rfl, rfl, rfl, rfl, rfl, trivial⟩ (fun J => ?_)
    refine c_block ?_
    obtain ⟨d27, hd27, h27⟩ := bind_some h
    obtain ⟨m27, hd27⟩ := loop_some hd27
    refine c_loop (loop_rule hmx (σ := Nat × (List (List Int)) × (List (List Int)) × Int × Int × Option Addr × Nat × List Nat × Option Addr × Nat × List Nat) (fun s => match s with | (_, d11_l27, d15_l27, e17_l27_2, x_s12_l27, a11_l27, c11_l27, B11_l27, a15_l27, c15_l27, B15_l27) => [(2, .int .i64 p2), (3, .pointer (some ⟨b3, 0, none⟩)), (4, .pointer (some ⟨b5, 0, none⟩)), (6, .pointer (some ⟨b7, 0, none⟩)), (7, .pointer (some ⟨b17_j9, 0, none⟩)), (8, .int .i64 i_s8_l10), (9, .int .i64 e17_l10_2), (12, .int .i64 x_s12_l27)]) (fun s w' => match s with | (m, d11_l27, d15_l27, e17_l27_2, x_s12_l27, a11_l27, c11_l27, B11_l27, a15_l27, c15_l27, B15_l27) => loopN (r14_At_L27 p0_0 p0_1 p1_0 p1_1 e17_l10_3 i_s8_l10) m (d11_l27, d15_l27, e17_l27_2, x_s12_l27) = some d27 ∧ Ev [] w w' ∧ MS w' [[b3], [b5], [b7], B11_l27, B15_l27, [b17_j9], M] ∧ FR w.heap.size [[b3], [b5], [b7], B11_l27, B15_l27, [b17_j9]] ∧ SlR (eProd (eInt .i64) (eProd (eInt .i64) (eProd (eInt .i64) (eInt .i64)))) w' (fl [[b3], [b5], [b7], B11_l27, B15_l27, [b17_j9], M]) a_p0_0 c_p0_0 p0_0 ∧ w'.heap[b3]? = some (.cells #[.slice a_p0_0 (p0_0).length c_p0_0, .int .i64 p0_1] 27 (0, 0)) ∧ SlR (eInt .i64) w' (fl [[b3], [b5], [b7], B11_l27, B15_l27, [b17_j9], M]) a_p1_1 c_p1_1 p1_1 ∧ w'.heap[b5]? = some (.cells #[.int .i64 p1_0, .slice a_p1_1 (p1_1).length c_p1_1] 30 (0, 0)) ∧ w'.heap[b7]? = some (.cells #[.slice none 0 0, .slice none 0 0, .int .i64 0, .int .i64 0] 85 (0, 0)) ∧ OwnR (eInt .i64) 3 22 w' B11_l27 a11_l27 c11_l27 d11_l27 none ∧ OwnR (eInt .i64) 3 22 w' B15_l27 a15_l27 c15_l27 d15_l27 none ∧ w'.heap[b17_j9]? = some (.cells #[.slice a11_l27 (d11_l27).length c11_l27, .slice a15_l27 (d15_l27).length c15_l27, .int .i64 e17_l27_2, .int .i64 e17_l10_3] 85 (0, 0))) (fun s => s.1) (m27, d11_j12, d15_j12, e17_j12_2, 0, a11_j12, c11_j12, B11_j12, a15_j12, c15_j12, B15_j12) ⟨rfl, rfl, rfl, rfl, rfl, rfl, rfl, rfl, trivial⟩ ⟨hd27, hev, hms, hfr, hs_p0_0, hb3, hs_p1_1, hb5, hb7, hj11_j9, hj15_j9, hb17_j9⟩ ?_)
    rintro ⟨m27, d11_l27, d15_l27, e17_l27_2, x_s12_l27, a11_l27, c11_l27, B11_l27, a15_l27, c15_l27, B15_l27⟩ J wl27 ⟨hn27, hev, hms, hfr, hs_p0_0, hb3, hs_p1_1, hb5, hb7, hj11_j9, hj15_j9, hb17_j9⟩
    rcases m27 with _ | m27
    · exact (loopN_zero hn27).elim
    obtain ⟨t27, h, hn27⟩ := bind_some hn27
    refine c_seq ?_
    refine c_seq (c_plain ?_)
    refine x_pure 1 [(54, .int .i64 x_s12_l27)] _ _ _ (by kernel_rfl) ?_
    refine x_fieldAddr (xv := .pointer (some ⟨b3, 0, none⟩)) (.pointer (some ⟨b3, 0, none⟩)) rfl rfl rfl (reads_field tfld27_0 _ _) ?_
    refine x_load (xv := .pointer (some ⟨b3, 0, none⟩)) (.slice a_p0_0 (p0_0).length c_p0_0) rfl rfl rfl (reads_box tcell25 hb3 nn 0 _ rfl) ?_
    refine x_len (vs := [.slice a_p0_0 (p0_0).length c_p0_0]) (.int .i64 ((p0_0).length : Int)) rfl rfl rfl (reads_len tsl25 _ _ _ _ _) ?_
    refine x_pure 1 [(58, .bool (decide (x_s12_l27 < ((p0_0).length : Int))))] _ _ _ (by kernel_rfl) ?_
    refine x_end rfl (k_then ?_)
    refine c_norm [(2, .int .i64 p2), (3, .pointer (some ⟨b3, 0, none⟩)), (4, .pointer (some ⟨b5, 0, none⟩)), (6, .pointer (some ⟨b7, 0, none⟩)), (7, .pointer (some ⟨b17_j9, 0, none⟩)), (8, .int .i64 i_s8_l10), (9, .int .i64 e17_l10_2), (12, .int .i64 x_s12_l27), (58, .bool (decide (x_s12_l27 < ((p0_0).length : Int))))] ⟨rfl, rfl, rfl, rfl, rfl, rfl, rfl, rfl, rfl, trivial⟩ (fun J => ?_)
    refine c_cond (decide (x_s12_l27 < ((p0_0).length : Int))) rfl (fun hb => ?_) (fun hb => ?_)
    · replace h := ite_t hb h
      refine c_skip ?_
      refine k_then ?_
      refine c_seq ?_
      refine c_block ?_
      refine c_seq (c_plain ?_)
      refine x_fieldAddr (xv := .pointer (some ⟨b3, 0, none⟩)) (.pointer (some ⟨b3, 0, none⟩)) rfl rfl rfl (reads_field tfld27_0 _ _) ?_
      refine x_load (xv := .pointer (some ⟨b3, 0, none⟩)) (.slice a_p0_0 (p0_0).length c_p0_0) rfl rfl rfl (reads_box tcell25 hb3 nn 0 _ rfl) ?_
      refine x_pure 1 [(63, .int .i64 x_s12_l27)] _ _ _ (by kernel_rfl) ?_
      obtain ⟨x29, hx29, h⟩ := bind_some h
      obtain ⟨ad29, cs29, hr29, hc29, hR⟩ := reads_index (Mo := []) tsl25 hs_p0_0 hx29
      obtain ⟨_, _, rfl, rfl, ⟨_, _, rfl, rfl, ⟨_, _, rfl, rfl, rfl⟩⟩⟩ := hR
      refine x_indexAddr (xv := .slice a_p0_0 (p0_0).length c_p0_0) (yv := .int .i64 x_s12_l27) (.pointer (some ad29)) rfl rfl rfl rfl hr29 ?_
      refine x_fieldAddr (xv := .pointer (some ad29)) (.pointer (some (Addr.add ad29 2))) rfl rfl rfl (reads_field tfld39_2 _ _) ?_
      refine x_load (xv := .pointer (some (Addr.add ad29 2))) (.int .i64 x29.2.2.1) rfl rfl rfl (reads_cell tcell3 hc29 (fun _ h => by cases h) 2 _ rfl) ?_
      refine x_pure 2 [(67, .int .i64 i_s8_l10), (68, .bool (x29.2.2.1 == i_s8_l10))] _ _ _ (by kernel_rfl) ?_
      refine x_end rfl (k_then ?_)
      refine c_cond (x29.2.2.1 == i_s8_l10) rfl (fun hb => ?_) (fun hb => ?_)
      · replace h := ite_t hb h
        refine c_plain ?_
        refine x_load (xv := .pointer (some ⟨b3, 0, none⟩)) (.agg #[.slice a_p0_0 (p0_0).length c_p0_0, .int .i64 p0_1]) rfl rfl rfl (reads_boxagg 0 [.slice a_p0_0 (p0_0).length c_p0_0, .int .i64 p0_1] tagg27 hb3 nn rfl) ?_
        refine x_load (xv := .pointer (some ⟨b5, 0, none⟩)) (.agg #[.int .i64 p1_0, .slice a_p1_1 (p1_1).length c_p1_1]) rfl rfl rfl (reads_boxagg 0 [.int .i64 p1_0, .slice a_p1_1 (p1_1).length c_p1_1] tagg30 hb5 nn rfl) ?_
        refine x_pure 2 [(71, .int .i64 x_s12_l27), (72, .int .i64 i_s8_l10)] _ _ _ (by kernel_rfl) ?_
        obtain ⟨x31, hx, h⟩ := bind_some h
        have hpk : MS wl27 ([[b17_j9], B11_l27, B15_l27] ++ [[b3], [b5], [b7], M]) := hms.pick [some 5, some 3, some 4, some 0, some 1, some 2, some 6] _ rfl
        have hsb0 : ∀ x ∈ fl ([[b17_j9], B11_l27, B15_l27] ++ [[b3], [b5], [b7], M]), x ∈ fl [[b3], [b5], [b7], B11_l27, B15_l27, [b17_j9], M] := pick_sub [some 5, some 3, some 4, some 0, some 1, some 2, some 6] _ rfl
        have hsb : ∀ x ∈ fl ([[b17_j9], B11_l27, B15_l27] ++ [(fl [[b3], [b5], [b7], M])]), x ∈ fl [[b3], [b5], [b7], B11_l27, B15_l27, [b17_j9], M] := fun x hx => hsb0 x (fl_unfold x hx)
        have hcall := r14_Yard_push_w b17_j9 a11_l27 c11_l27 B11_l27 d11_l27 a15_l27 c15_l27 B15_l27 d15_l27 e17_l27_2 e17_l10_3 a_p0_0 c_p0_0 p0_0 p0_1 p1_0 a_p1_1 c_p1_1 p1_1 x_s12_l27 i_s8_l10 _ wl27 (fl [[b3], [b5], [b7], M]) (hpk.fold (P := [[b17_j9], B11_l27, B15_l27])) hj11_j9 hj15_j9 hb17_j9 (hs_p0_0.sub hsb) (hs_p1_1.sub hsb) hx
        refine x_call 61 #[] #[] [.pointer (some ⟨b17_j9, 0, none⟩), .agg #[.slice a_p0_0 (p0_0).length c_p0_0, .int .i64 p0_1], .agg #[.int .i64 p1_0, .slice a_p1_1 (p1_1).length c_p1_1], .int .i64 x_s12_l27, .int .i64 i_s8_l10] _ rfl rfl rfl rfl hcall ?_
        rintro v w32 ⟨a0_32, c0_32, B2_32, a3_32, c3_32, B5_32, rfl, he32, hp32_0, hp32_1, hp32_2, hmn32, hfn32, hnp32⟩
        clear hcall hx
        refine ⟨.inl rfl, ?_⟩
        have hpk2 : MS wl27 ([[b17_j9], B11_l27, B15_l27] ++ [[b3], [b5], [b7], M]) := hms.pick [some 5, some 3, some 4, some 0, some 1, some 2, some 6] _ rfl
        have hsb2 : ∀ x ∈ fl ([[b17_j9], B11_l27, B15_l27] ++ [[b3], [b5], [b7], M]), x ∈ fl [[b3], [b5], [b7], B11_l27, B15_l27, [b17_j9], M] := pick_sub [some 5, some 3, some 4, some 0, some 1, some 2, some 6] _ rfl
        have hst0 := Stp.call (LS := [[b3], [b5], [b7], B11_l27, B15_l27, [b17_j9], M]) (res := []) (par := [[b17_j9], B2_32, B5_32]) (R := [[b3], [b5], [b7], M]) he32 (fun b hb => hsb2 b (fl_left' (P := [[b17_j9], B11_l27, B15_l27]) b hb)) hfn32 hnp32 (fun x hx => hsb2 x (fl_right' (P := [[b17_j9], B11_l27, B15_l27]) x hx))
        have hsn : ∀ x ∈ fl [[b3], [b5], [b7], B2_32, B5_32, [b17_j9], M], x ∈ fl ([] ++ ([[b17_j9], B2_32, B5_32] ++ [[b3], [b5], [b7], M])) := pick_sub [some 3, some 4, some 5, some 1, some 2, some 0, some 6] _ rfl
        have hst := hst0.res hsn
        replace hb3 := he32.box hb3 ((MS.outs (P := [[b17_j9], B11_l27, B15_l27]) hpk2 0 rfl) _ (List.mem_singleton.2 rfl))
        replace hs_p0_0 := hs_p0_0.step hst
        replace hb5 := he32.box hb5 ((MS.outs (P := [[b17_j9], B11_l27, B15_l27]) hpk2 1 rfl) _ (List.mem_singleton.2 rfl))
        replace hs_p1_1 := hs_p1_1.step hst
        replace hb7 := he32.box hb7 ((MS.outs (P := [[b17_j9], B11_l27, B15_l27]) hpk2 2 rfl) _ (List.mem_singleton.2 rfl))
        replace hms : MS w32 [[b3], [b5], [b7], B2_32, B5_32, [b17_j9], M] := (MS.call (P := [[b17_j9], B11_l27, B15_l27]) (R := [[b3], [b5], [b7], M]) (res := []) (par := [[b17_j9], B2_32, B5_32]) hpk2 he32 hmn32 hfn32 hnp32).pick [some 3, some 4, some 5, some 1, some 2, some 0, some 6] _ rfl
        have hPf : ∀ b ∈ fl [[b17_j9], B11_l27, B15_l27], w.heap.size ≤ b := FR.mem (ls := [[b17_j9], B11_l27, B15_l27]) (hfr.pick [some 5, some 3, some 4] _ rfl)
        have hfr2 : FR w.heap.size [[b3], [b5], [b7], B2_32, B5_32, [b17_j9]] := (FR.cons (hfr.at 0 rfl) (FR.cons (hfr.at 1 rfl) (FR.cons (hfr.at 2 rfl) (FR.cons (fun b hb => (hnp32.at 1 rfl b hb).elim (fun h => hPf b h) (fun h => Nat.le_trans hev.size h)) (FR.cons (fun b hb => (hnp32.at 2 rfl b hb).elim (fun h => hPf b h) (fun h => Nat.le_trans hev.size h)) (FR.cons (fun b hb => (hnp32.at 0 rfl b hb).elim (fun h => hPf b h) (fun h => Nat.le_trans hev.size h)) (FR.nil _)))))))
        replace hev := hev.then he32 (fun b hb => .inr (hPf b hb))
        replace hfr := hfr2
        clear hfr2
        replace hb17_j9 := hp32_0
        replace hj11_j9 := hp32_1
        replace hj15_j9 := hp32_2
        clear hpk hsb hsb0 hpk2 hsb2 hst0 hsn hst
        refine x_end rfl ?_
        refine k_block ?_
        refine k_then ?_
        refine c_norm [(2, .int .i64 p2), (3, .pointer (some ⟨b3, 0, none⟩)), (4, .pointer (some ⟨b5, 0, none⟩)), (6, .pointer (some ⟨b7, 0, none⟩)), (7, .pointer (some ⟨b17_j9, 0, none⟩)), (8, .int .i64 i_s8_l10), (9, .int .i64 e17_l10_2), (12, .int .i64 x_s12_l27)] ⟨rfl, rfl, rfl, rfl, rfl, rfl, rfl, rfl, trivial⟩ (fun J => ?_)
        refine c_plain ?_
        refine x_pure 3 [(59, .int .i64 x_s12_l27), (60, .int .i64 (IntKind.i64.wrap (x_s12_l27 + 1))), (12, .int .i64 (IntKind.i64.wrap (x_s12_l27 + 1)))] _ _ _ (by kernel_rfl) ?_
        refine x_end rfl ?_
        have hx := some_inj h
        subst hx
        exact k_then ⟨(m27, x31.2.1, x31.2.2, x31.1, IntKind.i64.wrap (x_s12_l27 + 1), a0_32, c0_32, B2_32, a3_32, c3_32, B5_32), ⟨rfl, rfl, rfl, rfl, rfl, rfl, rfl, rfl, trivial⟩, ⟨hn27, hev, hms, hfr, hs_p0_0, hb3, hs_p1_1, hb5, hb7, hj11_j9, hj15_j9, hb17_j9⟩, Nat.lt_succ_self _⟩
      replace h := ite_f hb h
      refine c_skip ?_
      refine k_block ?_
      refine k_then ?_
      refine c_plain ?_
      refine x_pure 3 [(59, .int .i64 x_s12_l27), (60, .int .i64 (IntKind.i64.wrap (x_s12_l27 + 1))), (12, .int .i64 (IntKind.i64.wrap (x_s12_l27 + 1)))] _ _ _ (by kernel_rfl) ?_
      refine x_end rfl ?_
      have hx := some_inj h
      subst hx
      exact k_then ⟨(m27, d11_l27, d15_l27, e17_l27_2, IntKind.i64.wrap (x_s12_l27 + 1), a11_l27, c11_l27, B11_l27, a15_l27, c15_l27, B15_l27), ⟨rfl, rfl, rfl, rfl, rfl, rfl, rfl, rfl, trivial⟩, ⟨hn27, hev, hms, hfr, hs_p0_0, hb3, hs_p1_1, hb5, hb7, hj11_j9, hj15_j9, hb17_j9⟩, Nat.lt_succ_self _⟩
    replace h := ite_f hb h
    refine c_exit ?_
    refine k_then_exit ?_
    have hx := some_inj h
    subst hx
    have hy := some_inj hn27
    subst hy
    replace h := h27
    refine k_then_exit ?_
    refine k_block_in ?_
    refine k_then ?_
    refine c_norm [(2, .int .i64 p2), (3, .pointer (some ⟨b3, 0, none⟩)), (4, .pointer (some ⟨b5, 0, none⟩)), (6, .pointer (some ⟨b7, 0, none⟩)), (7, .pointer (some ⟨b17_j9, 0, none⟩)), (8, .int .i64 i_s8_l10), (9, .int .i64 e17_l10_2)] ⟨rfl, rfl, rfl, rfl, rfl, rfl, rfl, trivial⟩ (fun J => ?_)
    refine c_seq (c_plain ?_)
    refine x_fieldAddr (xv := .pointer (some ⟨b17_j9, 0, none⟩)) (.pointer (some ⟨b17_j9, 2, none⟩)) rfl rfl rfl (reads_field tfld85_2 _ _) ?_
    refine x_load (xv := .pointer (some ⟨b17_j9, 2, none⟩)) (.int .i64 e17_l27_2) rfl rfl rfl (reads_box tcell3 hb17_j9 nn 2 _ rfl) ?_
    refine x_pure 2 [(76, .int .i64 e17_l10_2), (77, .bool (decide (e17_l27_2 > e17_l10_2)))] _ _ _ (by kernel_rfl) ?_
    refine x_end rfl (k_then ?_)
    refine c_cond (decide (e17_l27_2 > e17_l10_2)) rfl (fun hb => ?_) (fun hb => ?_)
    · replace h := ite_t hb h
      refine c_plain ?_
      refine x_fieldAddr (xv := .pointer (some ⟨b17_j9, 0, none⟩)) (.pointer (some ⟨b17_j9, 3, none⟩)) rfl rfl rfl (reads_field tfld85_3 _ _) ?_
      refine x_load (xv := .pointer (some ⟨b17_j9, 3, none⟩)) (.int .i64 e17_l10_3) rfl rfl rfl (reads_box tcell3 hb17_j9 nn 3 _ rfl) ?_
      refine x_pure 1 [(80, .int .i64 (IntKind.i64.wrap (e17_l10_3 + 1)))] _ _ _ (by kernel_rfl) ?_
      refine x_fieldAddr (xv := .pointer (some ⟨b17_j9, 0, none⟩)) (.pointer (some ⟨b17_j9, 3, none⟩)) rfl rfl rfl (reads_field tfld85_3 _ _) ?_
      obtain ⟨w33, hr33, hb33, he33⟩ := store_box 3 (.int .i64 (IntKind.i64.wrap (e17_l10_3 + 1))) #[.slice a11_l27 (d11_l27).length c11_l27, .slice a15_l27 (d15_l27).length c15_l27, .int .i64 e17_l27_2, .int .i64 (IntKind.i64.wrap (e17_l10_3 + 1))] tcell3 hb17_j9 rfl rfl rfl
      refine x_store w33 (xv := .pointer (some ⟨b17_j9, 3, none⟩)) (yv := .int .i64 (IntKind.i64.wrap (e17_l10_3 + 1))) rfl rfl rfl rfl hr33 ?_
      refine ⟨.inl rfl, ?_⟩
      have hst := Stp.ev' (ls := [[b3], [b5], [b7], B11_l27, B15_l27, [b17_j9], M]) he33 (mem_flat 5 rfl)
      replace hb3 := he33.box hb3 (hms.apart 0 5 rfl rfl rfl _ (List.mem_singleton.2 rfl))
      replace hs_p0_0 := hs_p0_0.step hst
      replace hb5 := he33.box hb5 (hms.apart 1 5 rfl rfl rfl _ (List.mem_singleton.2 rfl))
      replace hs_p1_1 := hs_p1_1.step hst
      replace hb7 := he33.box hb7 (hms.apart 2 5 rfl rfl rfl _ (List.mem_singleton.2 rfl))
      replace hj11_j9 := hj11_j9.step (plain_int _) he33 (hms.apart 3 5 rfl rfl rfl)
      replace hj15_j9 := hj15_j9.step (plain_int _) he33 (hms.apart 4 5 rfl rfl rfl)
      replace hms := hms.ev he33
      replace hev := hev.then he33 (fun b hb => .inr (hfr.at 5 rfl b hb))
      replace hb17_j9 := hb33
      refine x_end rfl ?_
      refine k_block ?_
      refine k_then ?_
      refine c_plain ?_
      refine x_pure 3 [(23, .int .i64 i_s8_l10), (24, .int .i64 (IntKind.i64.wrap (i_s8_l10 + 1))), (8, .int .i64 (IntKind.i64.wrap (i_s8_l10 + 1)))] _ _ _ (by kernel_rfl) ?_
      refine x_end rfl ?_
      have hx := some_inj h
      subst hx
      exact k_then ⟨(m10, d11_l27, d15_l27, e17_l27_2, IntKind.i64.wrap (e17_l10_3 + 1), IntKind.i64.wrap (i_s8_l10 + 1), a11_l27, c11_l27, B11_l27, a15_l27, c15_l27, B15_l27), ⟨rfl, rfl, rfl, rfl, rfl, rfl, trivial⟩, ⟨hn10, hev, hms, hfr, hs_p0_0, hb3, hs_p1_1, hb5, hb7, hj11_j9, hj15_j9, hb17_j9⟩, Nat.lt_succ_self _⟩
    replace h := ite_f hb h
    refine c_skip ?_
    refine k_block ?_
    refine k_then ?_
    refine c_plain ?_
    refine x_pure 3 [(23, .int .i64 i_s8_l10), (24, .int .i64 (IntKind.i64.wrap (i_s8_l10 + 1))), (8, .int .i64 (IntKind.i64.wrap (i_s8_l10 + 1)))] _ _ _ (by kernel_rfl) ?_
    refine x_end rfl ?_
    have hx := some_inj h
    subst hx
    exact k_then ⟨(m10, d11_l27, d15_l27, e17_l27_2, e17_l10_3, IntKind.i64.wrap (i_s8_l10 + 1), a11_l27, c11_l27, B11_l27, a15_l27, c15_l27, B15_l27), ⟨rfl, rfl, rfl, rfl, rfl, rfl, trivial⟩, ⟨hn10, hev, hms, hfr, hs_p0_0, hb3, hs_p1_1, hb5, hb7, hj11_j9, hj15_j9, hb17_j9⟩, Nat.lt_succ_self _⟩
  replace h := ite_f hb h
  refine c_exit ?_
  refine k_then_exit ?_
  have hx := some_inj h
  subst hx
  have hy := some_inj hn10
  subst hy
  replace h := h10
  refine k_then_exit ?_
  refine k_block_in ?_
  refine k_then ?_
  refine c_norm [(6, .pointer (some ⟨b7, 0, none⟩)), (7, .pointer (some ⟨b17_j9, 0, none⟩))] ⟨rfl, rfl, trivial⟩ (fun J => ?_)
  refine c_seq (c_plain ?_)
  refine x_load (xv := .pointer (some ⟨b17_j9, 0, none⟩)) (.agg #[.slice a11_l10 (d11_l10).length c11_l10, .slice a15_l10 (d15_l10).length c15_l10, .int .i64 e17_l10_2, .int .i64 e17_l10_3]) rfl rfl rfl (reads_boxagg 0 [.slice a11_l10 (d11_l10).length c11_l10, .slice a15_l10 (d15_l10).length c15_l10, .int .i64 e17_l10_2, .int .i64 e17_l10_3] tagg85 hb17_j9 nn rfl) ?_
  obtain ⟨w34, hr34, hb34, he34⟩ := store_boxagg 0 [.slice a11_l10 (d11_l10).length c11_l10, .slice a15_l10 (d15_l10).length c15_l10, .int .i64 e17_l10_2, .int .i64 e17_l10_3] #[.slice a11_l10 (d11_l10).length c11_l10, .slice a15_l10 (d15_l10).length c15_l10, .int .i64 e17_l10_2, .int .i64 e17_l10_3] tagg85 hb7 rfl rfl rfl
  refine x_store w34 (xv := .pointer (some ⟨b7, 0, none⟩)) (yv := .agg #[.slice a11_l10 (d11_l10).length c11_l10, .slice a15_l10 (d15_l10).length c15_l10, .int .i64 e17_l10_2, .int .i64 e17_l10_3]) rfl rfl rfl rfl hr34 ?_
  refine ⟨.inl rfl, ?_⟩
  have hst := Stp.ev' (ls := [[b3], [b5], [b7], B11_l10, B15_l10, [b17_j9], M]) he34 (mem_flat 2 rfl)
  replace hb3 := he34.box hb3 (hms.apart 0 2 rfl rfl rfl _ (List.mem_singleton.2 rfl))
  replace hs_p0_0 := hs_p0_0.step hst
  replace hb5 := he34.box hb5 (hms.apart 1 2 rfl rfl rfl _ (List.mem_singleton.2 rfl))
  replace hs_p1_1 := hs_p1_1.step hst
  replace hb17_j9 := he34.box hb17_j9 (hms.apart 5 2 rfl rfl rfl _ (List.mem_singleton.2 rfl))
  replace hj11_j9 := hj11_j9.step (plain_int _) he34 (hms.apart 3 2 rfl rfl rfl)
  replace hj15_j9 := hj15_j9.step (plain_int _) he34 (hms.apart 4 2 rfl rfl rfl)
  replace hms := hms.ev he34
  replace hev := hev.then he34 (fun b hb => .inr (hfr.at 2 rfl b hb))
  replace hb7 := hb34
  refine x_end rfl (k_then ?_)
  refine c_ret ?_
  refine r_ret (r_vals [.agg #[.slice a11_l10 (d11_l10).length c11_l10, .slice a15_l10 (d15_l10).length c15_l10, .int .i64 e17_l10_2, .int .i64 e17_l10_3]] ⟨⟨_, rfl, loadVar_of_reads (reads_boxagg (Mo := []) 0 [.slice a11_l10 (d11_l10).length c11_l10, .slice a15_l10 (d15_l10).length c15_l10, .int .i64 e17_l10_2, .int .i64 e17_l10_3] tagg85 hb7 nn rfl)⟩, trivial⟩ ?_)
  have hx := some_inj h
  subst hx
  have hmr : MS w34 [B11_l10, B15_l10, M] := hms.pick [some 3, some 4, some 6] _ rfl
  have hsu : ∀ x ∈ fl [B11_l10, B15_l10, M], x ∈ fl [[b3], [b5], [b7], B11_l10, B15_l10, [b17_j9], M] := pick_sub [some 3, some 4, some 6] _ rfl
  have hfe : FR w.heap.size [B11_l10, B15_l10] := hfr.pick [some 3, some 4] _ rfl
  exact ⟨a11_l10, c11_l10, B11_l10, a15_l10, c15_l10, B15_l10, rfl, hev, hmr, hfe, hj11_j9, hj15_j9⟩
def r14_Contents (p0_0 : List (Int × Int × Int × Int)) (p0_1 : Int) (p1_0 : Int) (p1_1 : List Int) (p2 : Int) : Option ((List (List Int)) × (List (List Int)) × Int) :=
((r14_Valid p0_0 p0_1 p1_0 p1_1).bind fun x8 =>
(if (x8 != 0) = true then
some ([], [], x8)
else
(if (decide (p2 < 0)) = true then
some ([], [], 2)
else
(if (decide (p2 > p1_0)) = true then
some ([], [], 2)
else
((r14_At p0_0 p0_1 p1_0 p1_1 p2).bind fun x11 =>
some (x11.1, x11.2.1, 0))))))

theorem r14_Contents_w (a_p0_0 : Option Addr) (c_p0_0 : Nat) (p0_0 : List (Int × Int × Int × Int)) (p0_1 : Int) (p1_0 : Int) (a_p1_1 : Option Addr) (c_p1_1 : Nat) (p1_1 : List Int) (p2 : Int) (r : (List (List Int)) × (List (List Int)) × Int) (w : World) (M : List Nat) (hms : MS w [M]) (hs_p0_0 : SlR (eProd (eInt .i64) (eProd (eInt .i64) (eProd (eInt .i64) (eInt .i64)))) w (fl [M]) a_p0_0 c_p0_0 p0_0) (hs_p1_1 : SlR (eInt .i64) w (fl [M]) a_p1_1 c_p1_1 p1_1) (h : r14_Contents p0_0 p0_1 p1_0 p1_1 p2 = some r) : CallVC Try.prog 36 [.agg #[.slice a_p0_0 (p0_0).length c_p0_0, .int .i64 p0_1], .agg #[.int .i64 p1_0, .slice a_p1_1 (p1_1).length c_p1_1], .int .i64 p2] w fun v w' => ∃ (a0' : Option Addr), ∃ (c0' : Nat), ∃ (B2' : List Nat), ∃ (a3' : Option Addr), ∃ (c3' : Nat), ∃ (B5' : List Nat), v = .tuple #[.slice a0' (r.1).length c0', .slice a3' (r.2.1).length c3', .int .i64 r.2.2] ∧ Ev [] w w' ∧ MS w' [B2', B5', M] ∧ FR w.heap.size [B2', B5'] ∧ OwnR (eInt .i64) 3 22 w' B2' a0' c0' r.1 none ∧ OwnR (eInt .i64) 3 22 w' B5' a3' c3' r.2.1 none := by
  refine calls_vc hmx Try.func36 (by kernel_rfl) rfl (rs := [.tmp 6, .tmp 7, .tmp 8]) rfl (by kernel_rfl) (args := [.agg #[.slice a_p0_0 (p0_0).length c_p0_0, .int .i64 p0_1], .agg #[.int .i64 p1_0, .slice a_p1_1 (p1_1).length c_p1_1], .int .i64 p2]) rfl ?_
  have hev : Ev [] w w := Ev.refl _ _
  have hfr : FR w.heap.size [] := FR.nil _
  refine c_seq (c_plain ?_)
  refine x_box (xv := .agg #[.slice a_p0_0 (p0_0).length c_p0_0, .int .i64 p0_1]) rfl rfl rfl (fun b3 w3 hq3 hb3 he3 _ => ?_)
  replace hb3 : w3.heap[b3]? = some (.cells #[.slice a_p0_0 (p0_0).length c_p0_0, .int .i64 p0_1] 27 (0, 0)) := hb3
  refine ⟨.inl rfl, ?_⟩
  have hst := Stp.box (ls := [M]) he3 hq3
  replace hs_p0_0 := hs_p0_0.step hst
  replace hs_p1_1 := hs_p1_1.step hst
  replace hms := hms.box he3 hq3 hb3
  replace hfr := hfr.box hev.size hq3
  replace hev := hev.ext he3
  refine x_box (xv := .agg #[.int .i64 p1_0, .slice a_p1_1 (p1_1).length c_p1_1]) rfl rfl rfl (fun b5 w5 hq5 hb5 he5 _ => ?_)
  replace hb5 : w5.heap[b5]? = some (.cells #[.int .i64 p1_0, .slice a_p1_1 (p1_1).length c_p1_1] 30 (0, 0)) := hb5
  refine ⟨.inl rfl, ?_⟩
  have hst := Stp.box (ls := [[b3], M]) he5 hq5
  replace hs_p0_0 := hs_p0_0.step hst
  replace hs_p1_1 := hs_p1_1.step hst
  replace hb3 := he5.box hb3 nn
  replace hms := hms.box he5 hq5 hb5
  replace hfr := hfr.box hev.size hq5
  replace hev := hev.ext he5
  refine x_pure 3 [(6, .slice none 0 0), (7, .slice none 0 0), (8, .int .i64 0)] _ _ _ (by kernel_rfl) ?_
  refine x_end rfl (k_then ?_)
  refine c_seq ?_
  refine c_seq (c_plain ?_)
  refine x_load (xv := .pointer (some ⟨b3, 0, none⟩)) (.agg #[.slice a_p0_0 (p0_0).length c_p0_0, .int .i64 p0_1]) rfl rfl rfl (reads_boxagg 0 [.slice a_p0_0 (p0_0).length c_p0_0, .int .i64 p0_1] tagg27 hb3 nn rfl) ?_
  refine x_load (xv := .pointer (some ⟨b5, 0, none⟩)) (.agg #[.int .i64 p1_0, .slice a_p1_1 (p1_1).length c_p1_1]) rfl rfl rfl (reads_boxagg 0 [.int .i64 p1_0, .slice a_p1_1 (p1_1).length c_p1_1] tagg30 hb5 nn rfl) ?_
  obtain ⟨x8, hx, h⟩ := bind_some h
  have hpk : MS w5 ([] ++ [[b5], [b3], M]) := hms.pick [some 0, some 1, some 2] _ rfl
  have hsb0 : ∀ x ∈ fl ([] ++ [[b5], [b3], M]), x ∈ fl [[b5], [b3], M] := pick_sub [some 0, some 1, some 2] _ rfl
  have hsb : ∀ x ∈ fl ([] ++ [(fl [[b5], [b3], M])]), x ∈ fl [[b5], [b3], M] := fun x hx => hsb0 x (fl_unfold x hx)
  have hcall := r14_Valid_w a_p0_0 c_p0_0 p0_0 p0_1 p1_0 a_p1_1 c_p1_1 p1_1 _ w5 (fl [[b5], [b3], M]) (MS.fold (P := []) hpk) (hs_p0_0.sub hsb) (hs_p1_1.sub hsb) hx
  refine x_call 37 #[] #[] [.agg #[.slice a_p0_0 (p0_0).length c_p0_0, .int .i64 p0_1], .agg #[.int .i64 p1_0, .slice a_p1_1 (p1_1).length c_p1_1]] _ rfl rfl rfl rfl hcall ?_
  rintro v w9 ⟨rfl, he9⟩
  clear hcall hx
  refine ⟨.inl rfl, ?_⟩
  have hst := Stp.ext (ls := [[b5], [b3], M]) he9
  replace hs_p0_0 := hs_p0_0.step hst
  replace hs_p1_1 := hs_p1_1.step hst
  replace hb3 := he9.box hb3 nn
  replace hb5 := he9.box hb5 nn
  replace hms := hms.ev he9
  replace hev := hev.ext he9
  clear hpk hsb hsb0
  refine x_pure 1 [(9, .int .i64 x8)] _ _ _ (by kernel_rfl) ?_
  refine x_end rfl (k_then ?_)
  refine c_seq (c_plain ?_)
  refine x_pure 2 [(14, .int .i64 x8), (15, .bool (x8 != 0))] _ _ _ (by kernel_rfl) ?_
  refine x_end rfl (k_then ?_)
  refine c_cond (x8 != 0) rfl (fun hb => ?_) (fun hb => ?_)
  · replace h := ite_t hb h
    refine c_seq (c_plain ?_)
    refine x_pure 4 [(16, .int .i64 x8), (6, .slice none 0 0), (7, .slice none 0 0), (8, .int .i64 x8)] _ _ _ (by kernel_rfl) ?_
    refine x_end rfl (k_then ?_)
    refine c_norm [(6, .slice none 0 0), (7, .slice none 0 0), (8, .int .i64 x8)] ⟨rfl, rfl, rfl, trivial⟩ (fun J => ?_)
    refine c_ret ?_
    refine k_then_ret ?_
    refine r_ret (r_vals [.slice none 0 0, .slice none 0 0, .int .i64 x8] ⟨rfl, rfl, rfl, trivial⟩ ?_)
    have hx := some_inj h
    subst hx
    have hmr : MS w9 [([] : List Nat), ([] : List Nat), M] := hms.pick [none, none, some 2] _ rfl
    have hsu : ∀ x ∈ fl [([] : List Nat), ([] : List Nat), M], x ∈ fl [[b5], [b3], M] := pick_sub [none, none, some 2] _ rfl
    have hfe : FR w.heap.size [([] : List Nat), ([] : List Nat)] := hfr.pick [none, none] _ rfl
    exact ⟨none, 0, ([] : List Nat), none, 0, ([] : List Nat), rfl, hev, hmr, hfe, OwnR.nil _ _ _ _ _, OwnR.nil _ _ _ _ _⟩
  replace h := ite_f hb h
  refine c_skip ?_
  refine k_then ?_
  refine c_seq ?_
  refine c_seq (c_plain ?_)
  refine x_pure 3 [(17, .int .i64 p2), (18, .bool (decide (p2 < 0))), (19, .bool (decide (p2 < 0)))] _ _ _ (by kernel_rfl) ?_
  refine x_split 19 (decide (p2 < 0)) rfl (fun hb => ?_) (fun hb => ?_)
  · replace h := ite_t hb h
    refine x_pure 5 [(20, undef), (21, undef), (22, undef), (23, undef), (24, .bool true)] _ _ _ (by kernel_rfl) ?_
    refine x_end rfl (k_then ?_)
    refine c_norm [(2, .int .i64 p2), (3, .pointer (some ⟨b3, 0, none⟩)), (4, .pointer (some ⟨b5, 0, none⟩)), (24, .bool true)] ⟨rfl, rfl, rfl, rfl, trivial⟩ (fun J => ?_)
    refine c_true rfl ?_
    refine c_seq (c_plain ?_)
    refine x_pure 3 [(6, .slice none 0 0), (7, .slice none 0 0), (8, .int .i64 2)] _ _ _ (by kernel_rfl) ?_
    refine x_end rfl (k_then ?_)
    refine c_ret ?_
    refine k_then_ret ?_
    refine r_ret (r_vals [.slice none 0 0, .slice none 0 0, .int .i64 2] ⟨rfl, rfl, rfl, trivial⟩ ?_)
    have hx := some_inj h
    subst hx
    have hmr : MS w9 [([] : List Nat), ([] : List Nat), M] := hms.pick [none, none, some 2] _ rfl
    have hsu : ∀ x ∈ fl [([] : List Nat), ([] : List Nat), M], x ∈ fl [[b5], [b3], M] := pick_sub [none, none, some 2] _ rfl
    have hfe : FR w.heap.size [([] : List Nat), ([] : List Nat)] := hfr.pick [none, none] _ rfl
    exact ⟨none, 0, ([] : List Nat), none, 0, ([] : List Nat), rfl, hev, hmr, hfe, OwnR.nil _ _ _ _ _, OwnR.nil _ _ _ _ _⟩
  replace h := ite_f hb h
  refine x_pure 1 [(20, .int .i64 p2)] _ _ _ (by kernel_rfl) ?_
  refine x_fieldAddr (xv := .pointer (some ⟨b5, 0, none⟩)) (.pointer (some ⟨b5, 0, none⟩)) rfl rfl rfl (reads_field tfld30_0 _ _) ?_
  refine x_load (xv := .pointer (some ⟨b5, 0, none⟩)) (.int .i64 p1_0) rfl rfl rfl (reads_box tcell3 hb5 nn 0 _ rfl) ?_
  refine x_pure 2 [(23, .bool (decide (p2 > p1_0))), (24, .bool (decide (p2 > p1_0)))] _ _ _ (by kernel_rfl) ?_
  refine x_end rfl (k_then ?_)
  refine c_norm [(2, .int .i64 p2), (3, .pointer (some ⟨b3, 0, none⟩)), (4, .pointer (some ⟨b5, 0, none⟩)), (24, .bool (decide (p2 > p1_0)))] ⟨rfl, rfl, rfl, rfl, trivial⟩ (fun J => ?_)
  refine c_cond (decide (p2 > p1_0)) rfl (fun hb => ?_) (fun hb => ?_)
  · replace h := ite_t hb h
    refine c_seq (c_plain ?_)
    refine x_pure 3 [(6, .slice none 0 0), (7, .slice none 0 0), (8, .int .i64 2)] _ _ _ (by kernel_rfl) ?_
    refine x_end rfl (k_then ?_)
    refine c_ret ?_
    refine k_then_ret ?_
    refine r_ret (r_vals [.slice none 0 0, .slice none 0 0, .int .i64 2] ⟨rfl, rfl, rfl, trivial⟩ ?_)
    have hx := some_inj h
    subst hx
    have hmr : MS w9 [([] : List Nat), ([] : List Nat), M] := hms.pick [none, none, some 2] _ rfl
    have hsu : ∀ x ∈ fl [([] : List Nat), ([] : List Nat), M], x ∈ fl [[b5], [b3], M] := pick_sub [none, none, some 2] _ rfl
    have hfe : FR w.heap.size [([] : List Nat), ([] : List Nat)] := hfr.pick [none, none] _ rfl
    exact ⟨none, 0, ([] : List Nat), none, 0, ([] : List Nat), rfl, hev, hmr, hfe, OwnR.nil _ _ _ _ _, OwnR.nil _ _ _ _ _⟩
  replace h := ite_f hb h
  refine c_skip ?_
  refine k_then ?_
  refine c_seq (c_plain ?_)
  refine x_load (xv := .pointer (some ⟨b3, 0, none⟩)) (.agg #[.slice a_p0_0 (p0_0).length c_p0_0, .int .i64 p0_1]) rfl rfl rfl (reads_boxagg 0 [.slice a_p0_0 (p0_0).length c_p0_0, .int .i64 p0_1] tagg27 hb3 nn rfl) ?_
  refine x_load (xv := .pointer (some ⟨b5, 0, none⟩)) (.agg #[.int .i64 p1_0, .slice a_p1_1 (p1_1).length c_p1_1]) rfl rfl rfl (reads_boxagg 0 [.int .i64 p1_0, .slice a_p1_1 (p1_1).length c_p1_1] tagg30 hb5 nn rfl) ?_
  refine x_pure 1 [(27, .int .i64 p2)] _ _ _ (by kernel_rfl) ?_
  obtain ⟨x11, hx, h⟩ := bind_some h
  have hpk : MS w9 ([] ++ [[b5], [b3], M]) := hms.pick [some 0, some 1, some 2] _ rfl
  have hsb0 : ∀ x ∈ fl ([] ++ [[b5], [b3], M]), x ∈ fl [[b5], [b3], M] := pick_sub [some 0, some 1, some 2] _ rfl
  have hsb : ∀ x ∈ fl ([] ++ [(fl [[b5], [b3], M])]), x ∈ fl [[b5], [b3], M] := fun x hx => hsb0 x (fl_unfold x hx)
  have hcall := r14_At_w a_p0_0 c_p0_0 p0_0 p0_1 p1_0 a_p1_1 c_p1_1 p1_1 p2 _ w9 (fl [[b5], [b3], M]) (MS.fold (P := []) hpk) (hs_p0_0.sub hsb) (hs_p1_1.sub hsb) hx
  refine x_call 50 #[] #[] [.agg #[.slice a_p0_0 (p0_0).length c_p0_0, .int .i64 p0_1], .agg #[.int .i64 p1_0, .slice a_p1_1 (p1_1).length c_p1_1], .int .i64 p2] _ rfl rfl rfl rfl hcall ?_
  rintro v w12 ⟨a0_12, c0_12, B2_12, a3_12, c3_12, B5_12, rfl, he12, hmn12, hfn12, hf12_1, hf12_2⟩
  clear hcall hx
  refine ⟨.inl rfl, ?_⟩
  have hpk2 : MS w9 ([] ++ [[b5], [b3], M]) := hms.pick [some 0, some 1, some 2] _ rfl
  have hsb2 : ∀ x ∈ fl ([] ++ [[b5], [b3], M]), x ∈ fl [[b5], [b3], M] := pick_sub [some 0, some 1, some 2] _ rfl
  have hst0 := Stp.call (LS := [[b5], [b3], M]) (res := [B2_12, B5_12]) (par := []) (R := [[b5], [b3], M]) he12 (fun b hb => hsb2 b (fl_left' (P := []) b hb)) hfn12 (NP.init _ _) (fun x hx => hsb2 x (fl_right' (P := []) x hx))
  have hsn : ∀ x ∈ fl [B2_12, B5_12, [b5], [b3], M], x ∈ fl ([B2_12, B5_12] ++ ([] ++ [[b5], [b3], M])) := pick_sub [some 0, some 1, some 2, some 3, some 4] _ rfl
  have hst := hst0.res hsn
  replace hs_p0_0 := hs_p0_0.step hst
  replace hs_p1_1 := hs_p1_1.step hst
  replace hb3 := he12.box hb3 ((MS.outs (P := []) hpk2 1 rfl) _ (List.mem_singleton.2 rfl))
  replace hb5 := he12.box hb5 ((MS.outs (P := []) hpk2 0 rfl) _ (List.mem_singleton.2 rfl))
  replace hms : MS w12 [B2_12, B5_12, [b5], [b3], M] := (MS.call (P := []) (R := [[b5], [b3], M]) (res := [B2_12, B5_12]) (par := []) hpk2 he12 hmn12 hfn12 (NP.init _ _)).pick [some 0, some 1, some 2, some 3, some 4] _ rfl
  have hfr2 : FR w.heap.size [B2_12, B5_12, [b5], [b3]] := (FR.cons (fun b hb => Nat.le_trans hev.size (hfn12.at 0 rfl b hb)) (FR.cons (fun b hb => Nat.le_trans hev.size (hfn12.at 1 rfl b hb)) (FR.cons (hfr.at 0 rfl) (FR.cons (hfr.at 1 rfl) (FR.nil _)))))
  replace hev := hev.ext he12
  replace hfr := hfr2
  clear hfr2
  clear hpk hsb hsb0 hpk2 hsb2 hst0 hsn hst
  refine x_alloc (z := .agg #[.slice none 0 0, .slice none 0 0, .int .i64 0, .int .i64 0]) rfl rfl (by kernel_rfl) (fun b15 w15 hq15 hb15 he15 _ => ?_)
  replace hb15 : w15.heap[b15]? = some (.cells #[.slice none 0 0, .slice none 0 0, .int .i64 0, .int .i64 0] 85 (0, 0)) := hb15
  refine ⟨.inl rfl, ?_⟩
  have hst := Stp.box (ls := [B2_12, B5_12, [b5], [b3], M]) he15 hq15
  replace hs_p0_0 := hs_p0_0.step hst
  replace hs_p1_1 := hs_p1_1.step hst
  replace hb3 := he15.box hb3 nn
  replace hb5 := he15.box hb5 nn
  replace hf12_1 := hf12_1.step (plain_int _) he15 nn2
  replace hf12_2 := hf12_2.step (plain_int _) he15 nn2
  replace hms := hms.box he15 hq15 hb15
  replace hfr := hfr.box hev.size hq15
  replace hev := hev.ext he15
  obtain ⟨w17, hr17, hb17, he17⟩ := store_boxagg 0 [.slice a0_12 (x11.1).length c0_12, .slice a3_12 (x11.2.1).length c3_12, .int .i64 x11.2.2.1, .int .i64 x11.2.2.2] #[.slice a0_12 (x11.1).length c0_12, .slice a3_12 (x11.2.1).length c3_12, .int .i64 x11.2.2.1, .int .i64 x11.2.2.2] tagg85 hb15 rfl rfl rfl
  refine x_store w17 (xv := .pointer (some ⟨b15, 0, none⟩)) (yv := .agg #[.slice a0_12 (x11.1).length c0_12, .slice a3_12 (x11.2.1).length c3_12, .int .i64 x11.2.2.1, .int .i64 x11.2.2.2]) rfl rfl rfl rfl hr17 ?_
  refine ⟨.inl rfl, ?_⟩
  have hst := Stp.ev' (ls := [[b15], B2_12, B5_12, [b5], [b3], M]) he17 (mem_flat 0 rfl)
  replace hs_p0_0 := hs_p0_0.step hst
  replace hs_p1_1 := hs_p1_1.step hst
  replace hb3 := he17.box hb3 (hms.apart 4 0 rfl rfl rfl _ (List.mem_singleton.2 rfl))
  replace hb5 := he17.box hb5 (hms.apart 3 0 rfl rfl rfl _ (List.mem_singleton.2 rfl))
  replace hf12_1 := hf12_1.step (plain_int _) he17 (hms.apart 1 0 rfl rfl rfl)
  replace hf12_2 := hf12_2.step (plain_int _) he17 (hms.apart 2 0 rfl rfl rfl)
  replace hms := hms.ev he17
  replace hev := hev.then he17 (fun b hb => .inr (hfr.at 0 rfl b hb))
  replace hb15 := hb17
  refine x_end rfl (k_then ?_)
  refine c_seq ?_
  refine c_drawn [] [(0, false), (1, false), (2, false), (3, false), (4, false), (5, false), (6, false)] _ (by kernel_rfl) rfl ?_
  have hst := Stp.ext (ls := [[b15], B2_12, B5_12, [b5], [b3], M]) (Ev.drew w17)
  replace hs_p0_0 := hs_p0_0.step hst
  replace hs_p1_1 := hs_p1_1.step hst
  replace hb3 := (Ev.drew w17).box hb3 nn
  replace hb5 := (Ev.drew w17).box hb5 nn
  replace hf12_1 := hf12_1.step (plain_int _) (Ev.drew w17) nn2
  replace hf12_2 := hf12_2.step (plain_int _) (Ev.drew w17) nn2
  replace hb15 := (Ev.drew w17).box hb15 nn
  replace hms := hms.ev (Ev.drew w17)
  replace hev := hev.ext (Ev.drew w17)
  refine x_fieldAddr (xv := .pointer (some ⟨b15, 0, none⟩)) (.pointer (some ⟨b15, 0, none⟩)) rfl rfl rfl (reads_field tfld85_0 _ _) ?_
  refine x_load (xv := .pointer (some ⟨b15, 0, none⟩)) (.slice a0_12 (x11.1).length c0_12) rfl rfl rfl (reads_box tcell32 hb15 nn 0 _ rfl) ?_
  refine x_fieldAddr (xv := .pointer (some ⟨b15, 0, none⟩)) (.pointer (some ⟨b15, 1, none⟩)) rfl rfl rfl (reads_field tfld85_1 _ _) ?_
  refine x_load (xv := .pointer (some ⟨b15, 1, none⟩)) (.slice a3_12 (x11.2.1).length c3_12) rfl rfl rfl (reads_box tcell32 hb15 nn 1 _ rfl) ?_
  refine x_pure 3 [(6, .slice a0_12 (x11.1).length c0_12), (7, .slice a3_12 (x11.2.1).length c3_12), (8, .int .i64 0)] _ _ _ (by kernel_rfl) ?_
  refine x_end rfl (k_then ?_)
  refine c_ret ?_
  refine r_ret (r_vals [.slice a0_12 (x11.1).length c0_12, .slice a3_12 (x11.2.1).length c3_12, .int .i64 0] ⟨rfl, rfl, rfl, trivial⟩ ?_)
  have hx := some_inj h
  subst hx
  have hmr : MS (w17).drew [B2_12, B5_12, M] := hms.pick [some 1, some 2, some 5] _ rfl
  have hsu : ∀ x ∈ fl [B2_12, B5_12, M], x ∈ fl [[b15], B2_12, B5_12, [b5], [b3], M] := pick_sub [some 1, some 2, some 5] _ rfl
  have hfe : FR w.heap.size [B2_12, B5_12] := hfr.pick [some 1, some 2] _ rfl
  exact ⟨a0_12, c0_12, B2_12, a3_12, c3_12, B5_12, rfl, hev, hmr, hfe, hf12_1, hf12_2⟩
def r14_Run (p0_0 : List (Int × Int × Int × Int)) (p0_1 : Int) (p1_0 : Int) (p1_1 : List Int) : Option (((List (List Int)) × Int) × Int) :=
((r14_Valid p0_0 p0_1 p1_0 p1_1).bind fun x10 =>
(if (x10 != 0) = true then
some (([], 0), x10)
else
((r14_At p0_0 p0_1 p1_0 p1_1 p1_0).bind fun x13 =>
some ((x13.2.1, x13.2.2.1), 0))))

theorem r14_Run_w (a_p0_0 : Option Addr) (c_p0_0 : Nat) (p0_0 : List (Int × Int × Int × Int)) (p0_1 : Int) (p1_0 : Int) (a_p1_1 : Option Addr) (c_p1_1 : Nat) (p1_1 : List Int) (r : ((List (List Int)) × Int) × Int) (w : World) (M : List Nat) (hms : MS w [M]) (hs_p0_0 : SlR (eProd (eInt .i64) (eProd (eInt .i64) (eProd (eInt .i64) (eInt .i64)))) w (fl [M]) a_p0_0 c_p0_0 p0_0) (hs_p1_1 : SlR (eInt .i64) w (fl [M]) a_p1_1 c_p1_1 p1_1) (h : r14_Run p0_0 p0_1 p1_0 p1_1 = some r) : CallVC Try.prog 38 [.agg #[.slice a_p0_0 (p0_0).length c_p0_0, .int .i64 p0_1], .agg #[.int .i64 p1_0, .slice a_p1_1 (p1_1).length c_p1_1]] w fun v w' => ∃ (a0' : Option Addr), ∃ (c0' : Nat), ∃ (B2' : List Nat), v = .tuple #[.agg #[.slice a0' (r.1.1).length c0', .int .i64 r.1.2], .int .i64 r.2] ∧ Ev [] w w' ∧ MS w' [B2', M] ∧ FR w.heap.size [B2'] ∧ OwnR (eInt .i64) 3 22 w' B2' a0' c0' r.1.1 none := by
  refine calls_vc hmx Try.func38 (by kernel_rfl) rfl (rs := [.cell 4 34, .tmp 5]) rfl (by kernel_rfl) (args := [.agg #[.slice a_p0_0 (p0_0).length c_p0_0, .int .i64 p0_1], .agg #[.int .i64 p1_0, .slice a_p1_1 (p1_1).length c_p1_1]]) rfl ?_
  have hev : Ev [] w w := Ev.refl _ _
  have hfr : FR w.heap.size [] := FR.nil _
  refine c_seq (c_plain ?_)
  refine x_box (xv := .agg #[.slice a_p0_0 (p0_0).length c_p0_0, .int .i64 p0_1]) rfl rfl rfl (fun b3 w3 hq3 hb3 he3 _ => ?_)
  replace hb3 : w3.heap[b3]? = some (.cells #[.slice a_p0_0 (p0_0).length c_p0_0, .int .i64 p0_1] 27 (0, 0)) := hb3
  refine ⟨.inl rfl, ?_⟩
  have hst := Stp.box (ls := [M]) he3 hq3
  replace hs_p0_0 := hs_p0_0.step hst
  replace hs_p1_1 := hs_p1_1.step hst
  replace hms := hms.box he3 hq3 hb3
  replace hfr := hfr.box hev.size hq3
  replace hev := hev.ext he3
  refine x_box (xv := .agg #[.int .i64 p1_0, .slice a_p1_1 (p1_1).length c_p1_1]) rfl rfl rfl (fun b5 w5 hq5 hb5 he5 _ => ?_)
  replace hb5 : w5.heap[b5]? = some (.cells #[.int .i64 p1_0, .slice a_p1_1 (p1_1).length c_p1_1] 30 (0, 0)) := hb5
  refine ⟨.inl rfl, ?_⟩
  have hst := Stp.box (ls := [[b3], M]) he5 hq5
  replace hs_p0_0 := hs_p0_0.step hst
  replace hs_p1_1 := hs_p1_1.step hst
  replace hb3 := he5.box hb3 nn
  replace hms := hms.box he5 hq5 hb5
  replace hfr := hfr.box hev.size hq5
  replace hev := hev.ext he5
  refine x_alloc (z := .agg #[.slice none 0 0, .int .i64 0]) rfl rfl (by kernel_rfl) (fun b7 w7 hq7 hb7 he7 _ => ?_)
  replace hb7 : w7.heap[b7]? = some (.cells #[.slice none 0 0, .int .i64 0] 34 (0, 0)) := hb7
  refine ⟨.inl rfl, ?_⟩
  have hst := Stp.box (ls := [[b5], [b3], M]) he7 hq7
  replace hs_p0_0 := hs_p0_0.step hst
  replace hs_p1_1 := hs_p1_1.step hst
  replace hb3 := he7.box hb3 nn
  replace hb5 := he7.box hb5 nn
  replace hms := hms.box he7 hq7 hb7
  replace hfr := hfr.box hev.size hq7
  replace hev := hev.ext he7
  refine x_pure 1 [(5, .int .i64 0)] _ _ _ (by kernel_rfl) ?_
  refine x_end rfl (k_then ?_)
  refine c_seq ?_
  refine c_seq (c_plain ?_)
  refine x_load (xv := .pointer (some ⟨b3, 0, none⟩)) (.agg #[.slice a_p0_0 (p0_0).length c_p0_0, .int .i64 p0_1]) rfl rfl rfl (reads_boxagg 0 [.slice a_p0_0 (p0_0).length c_p0_0, .int .i64 p0_1] tagg27 hb3 nn rfl) ?_
  refine x_load (xv := .pointer (some ⟨b5, 0, none⟩)) (.agg #[.int .i64 p1_0, .slice a_p1_1 (p1_1).length c_p1_1]) rfl rfl rfl (reads_boxagg 0 [.int .i64 p1_0, .slice a_p1_1 (p1_1).length c_p1_1] tagg30 hb5 nn rfl) ?_
  obtain ⟨x10, hx, h⟩ := bind_some h
  have hpk : MS w7 ([] ++ [[b7], [b5], [b3], M]) := hms.pick [some 0, some 1, some 2, some 3] _ rfl
  have hsb0 : ∀ x ∈ fl ([] ++ [[b7], [b5], [b3], M]), x ∈ fl [[b7], [b5], [b3], M] := pick_sub [some 0, some 1, some 2, some 3] _ rfl
  have hsb : ∀ x ∈ fl ([] ++ [(fl [[b7], [b5], [b3], M])]), x ∈ fl [[b7], [b5], [b3], M] := fun x hx => hsb0 x (fl_unfold x hx)
  have hcall := r14_Valid_w a_p0_0 c_p0_0 p0_0 p0_1 p1_0 a_p1_1 c_p1_1 p1_1 _ w7 (fl [[b7], [b5], [b3], M]) (MS.fold (P := []) hpk) (hs_p0_0.sub hsb) (hs_p1_1.sub hsb) hx
  refine x_call 37 #[] #[] [.agg #[.slice a_p0_0 (p0_0).length c_p0_0, .int .i64 p0_1], .agg #[.int .i64 p1_0, .slice a_p1_1 (p1_1).length c_p1_1]] _ rfl rfl rfl rfl hcall ?_
  rintro v w11 ⟨rfl, he11⟩
  clear hcall hx
  refine ⟨.inl rfl, ?_⟩
  have hst := Stp.ext (ls := [[b7], [b5], [b3], M]) he11
  replace hs_p0_0 := hs_p0_0.step hst
  replace hs_p1_1 := hs_p1_1.step hst
  replace hb3 := he11.box hb3 nn
  replace hb5 := he11.box hb5 nn
  replace hb7 := he11.box hb7 nn
  replace hms := hms.ev he11
  replace hev := hev.ext he11
  clear hpk hsb hsb0
  refine x_pure 1 [(6, .int .i64 x10)] _ _ _ (by kernel_rfl) ?_
  refine x_end rfl (k_then ?_)
  refine c_seq (c_plain ?_)
  refine x_pure 2 [(11, .int .i64 x10), (12, .bool (x10 != 0))] _ _ _ (by kernel_rfl) ?_
  refine x_end rfl (k_then ?_)
  refine c_cond (x10 != 0) rfl (fun hb => ?_) (fun hb => ?_)
  · replace h := ite_t hb h
    refine c_seq (c_plain ?_)
    refine x_build (vs := []) (.agg #[.slice none 0 0, .int .i64 0]) rfl rfl rfl (fun _ _ => by kernel_rfl) ?_
    refine x_pure 1 [(14, .int .i64 x10)] _ _ _ (by kernel_rfl) ?_
    obtain ⟨w12, hr12, hb12, he12⟩ := store_boxagg 0 [.slice none 0 0, .int .i64 0] #[.slice none 0 0, .int .i64 0] tagg34 hb7 rfl rfl rfl
    refine x_store w12 (xv := .pointer (some ⟨b7, 0, none⟩)) (yv := .agg #[.slice none 0 0, .int .i64 0]) rfl rfl rfl rfl hr12 ?_
    refine ⟨.inl rfl, ?_⟩
    have hst := Stp.ev' (ls := [[b7], [b5], [b3], M]) he12 (mem_flat 0 rfl)
    replace hs_p0_0 := hs_p0_0.step hst
    replace hs_p1_1 := hs_p1_1.step hst
    replace hb3 := he12.box hb3 (hms.apart 2 0 rfl rfl rfl _ (List.mem_singleton.2 rfl))
    replace hb5 := he12.box hb5 (hms.apart 1 0 rfl rfl rfl _ (List.mem_singleton.2 rfl))
    replace hms := hms.ev he12
    replace hev := hev.then he12 (fun b hb => .inr (hfr.at 0 rfl b hb))
    replace hb7 := hb12
    refine x_pure 1 [(5, .int .i64 x10)] _ _ _ (by kernel_rfl) ?_
    refine x_end rfl (k_then ?_)
    refine c_norm [(4, .pointer (some ⟨b7, 0, none⟩)), (5, .int .i64 x10)] ⟨rfl, rfl, trivial⟩ (fun J => ?_)
    refine c_ret ?_
    refine k_then_ret ?_
    refine r_ret (r_vals [.agg #[.slice none 0 0, .int .i64 0], .int .i64 x10] ⟨⟨_, rfl, loadVar_of_reads (reads_boxagg (Mo := []) 0 [.slice none 0 0, .int .i64 0] tagg34 hb7 nn rfl)⟩, rfl, trivial⟩ ?_)
    have hx := some_inj h
    subst hx
    have hmr : MS w12 [([] : List Nat), M] := hms.pick [none, some 3] _ rfl
    have hsu : ∀ x ∈ fl [([] : List Nat), M], x ∈ fl [[b7], [b5], [b3], M] := pick_sub [none, some 3] _ rfl
    have hfe : FR w.heap.size [([] : List Nat)] := hfr.pick [none] _ rfl
    exact ⟨none, 0, ([] : List Nat), rfl, hev, hmr, hfe, OwnR.nil _ _ _ _ _⟩
  replace h := ite_f hb h
  refine c_skip ?_
  refine k_then ?_
  refine c_seq (c_plain ?_)
  refine x_load (xv := .pointer (some ⟨b3, 0, none⟩)) (.agg #[.slice a_p0_0 (p0_0).length c_p0_0, .int .i64 p0_1]) rfl rfl rfl (reads_boxagg 0 [.slice a_p0_0 (p0_0).length c_p0_0, .int .i64 p0_1] tagg27 hb3 nn rfl) ?_
  refine x_load (xv := .pointer (some ⟨b5, 0, none⟩)) (.agg #[.int .i64 p1_0, .slice a_p1_1 (p1_1).length c_p1_1]) rfl rfl rfl (reads_boxagg 0 [.int .i64 p1_0, .slice a_p1_1 (p1_1).length c_p1_1] tagg30 hb5 nn rfl) ?_
  refine x_fieldAddr (xv := .pointer (some ⟨b5, 0, none⟩)) (.pointer (some ⟨b5, 0, none⟩)) rfl rfl rfl (reads_field tfld30_0 _ _) ?_
  refine x_load (xv := .pointer (some ⟨b5, 0, none⟩)) (.int .i64 p1_0) rfl rfl rfl (reads_box tcell3 hb5 nn 0 _ rfl) ?_
  obtain ⟨x13, hx, h⟩ := bind_some h
  have hpk : MS w11 ([] ++ [[b7], [b5], [b3], M]) := hms.pick [some 0, some 1, some 2, some 3] _ rfl
  have hsb0 : ∀ x ∈ fl ([] ++ [[b7], [b5], [b3], M]), x ∈ fl [[b7], [b5], [b3], M] := pick_sub [some 0, some 1, some 2, some 3] _ rfl
  have hsb : ∀ x ∈ fl ([] ++ [(fl [[b7], [b5], [b3], M])]), x ∈ fl [[b7], [b5], [b3], M] := fun x hx => hsb0 x (fl_unfold x hx)
  have hcall := r14_At_w a_p0_0 c_p0_0 p0_0 p0_1 p1_0 a_p1_1 c_p1_1 p1_1 p1_0 _ w11 (fl [[b7], [b5], [b3], M]) (MS.fold (P := []) hpk) (hs_p0_0.sub hsb) (hs_p1_1.sub hsb) hx
  refine x_call 50 #[] #[] [.agg #[.slice a_p0_0 (p0_0).length c_p0_0, .int .i64 p0_1], .agg #[.int .i64 p1_0, .slice a_p1_1 (p1_1).length c_p1_1], .int .i64 p1_0] _ rfl rfl rfl rfl hcall ?_
  rintro v w14 ⟨a0_14, c0_14, B2_14, a3_14, c3_14, B5_14, rfl, he14, hmn14, hfn14, hf14_1, hf14_2⟩
  clear hcall hx
  refine ⟨.inl rfl, ?_⟩
  have hpk2 : MS w11 ([] ++ [[b7], [b5], [b3], M]) := hms.pick [some 0, some 1, some 2, some 3] _ rfl
  have hsb2 : ∀ x ∈ fl ([] ++ [[b7], [b5], [b3], M]), x ∈ fl [[b7], [b5], [b3], M] := pick_sub [some 0, some 1, some 2, some 3] _ rfl
  have hst0 := Stp.call (LS := [[b7], [b5], [b3], M]) (res := [B2_14, B5_14]) (par := []) (R := [[b7], [b5], [b3], M]) he14 (fun b hb => hsb2 b (fl_left' (P := []) b hb)) hfn14 (NP.init _ _) (fun x hx => hsb2 x (fl_right' (P := []) x hx))
  have hsn : ∀ x ∈ fl [B2_14, B5_14, [b7], [b5], [b3], M], x ∈ fl ([B2_14, B5_14] ++ ([] ++ [[b7], [b5], [b3], M])) := pick_sub [some 0, some 1, some 2, some 3, some 4, some 5] _ rfl
  have hst := hst0.res hsn
  replace hs_p0_0 := hs_p0_0.step hst
  replace hs_p1_1 := hs_p1_1.step hst
  replace hb3 := he14.box hb3 ((MS.outs (P := []) hpk2 2 rfl) _ (List.mem_singleton.2 rfl))
  replace hb5 := he14.box hb5 ((MS.outs (P := []) hpk2 1 rfl) _ (List.mem_singleton.2 rfl))
  replace hb7 := he14.box hb7 ((MS.outs (P := []) hpk2 0 rfl) _ (List.mem_singleton.2 rfl))
  replace hms : MS w14 [B2_14, B5_14, [b7], [b5], [b3], M] := (MS.call (P := []) (R := [[b7], [b5], [b3], M]) (res := [B2_14, B5_14]) (par := []) hpk2 he14 hmn14 hfn14 (NP.init _ _)).pick [some 0, some 1, some 2, some 3, some 4, some 5] _ rfl
  have hfr2 : FR w.heap.size [B2_14, B5_14, [b7], [b5], [b3]] := (FR.cons (fun b hb => Nat.le_trans hev.size (hfn14.at 0 rfl b hb)) (FR.cons (fun b hb => Nat.le_trans hev.size (hfn14.at 1 rfl b hb)) (FR.cons (hfr.at 0 rfl) (FR.cons (hfr.at 1 rfl) (FR.cons (hfr.at 2 rfl) (FR.nil _))))))
  replace hev := hev.ext he14
  replace hfr := hfr2
  clear hfr2
  clear hpk hsb hsb0 hpk2 hsb2 hst0 hsn hst
  refine x_alloc (z := .agg #[.slice none 0 0, .slice none 0 0, .int .i64 0, .int .i64 0]) rfl rfl (by kernel_rfl) (fun b17 w17 hq17 hb17 he17 _ => ?_)
  replace hb17 : w17.heap[b17]? = some (.cells #[.slice none 0 0, .slice none 0 0, .int .i64 0, .int .i64 0] 85 (0, 0)) := hb17
  refine ⟨.inl rfl, ?_⟩
  have hst := Stp.box (ls := [B2_14, B5_14, [b7], [b5], [b3], M]) he17 hq17
  replace hs_p0_0 := hs_p0_0.step hst
  replace hs_p1_1 := hs_p1_1.step hst
  replace hb3 := he17.box hb3 nn
  replace hb5 := he17.box hb5 nn
  replace hb7 := he17.box hb7 nn
  replace hf14_1 := hf14_1.step (plain_int _) he17 nn2
  replace hf14_2 := hf14_2.step (plain_int _) he17 nn2
  replace hms := hms.box he17 hq17 hb17
  replace hfr := hfr.box hev.size hq17
  replace hev := hev.ext he17
  obtain ⟨w19, hr19, hb19, he19⟩ := store_boxagg 0 [.slice a0_14 (x13.1).length c0_14, .slice a3_14 (x13.2.1).length c3_14, .int .i64 x13.2.2.1, .int .i64 x13.2.2.2] #[.slice a0_14 (x13.1).length c0_14, .slice a3_14 (x13.2.1).length c3_14, .int .i64 x13.2.2.1, .int .i64 x13.2.2.2] tagg85 hb17 rfl rfl rfl
  refine x_store w19 (xv := .pointer (some ⟨b17, 0, none⟩)) (yv := .agg #[.slice a0_14 (x13.1).length c0_14, .slice a3_14 (x13.2.1).length c3_14, .int .i64 x13.2.2.1, .int .i64 x13.2.2.2]) rfl rfl rfl rfl hr19 ?_
  refine ⟨.inl rfl, ?_⟩
  have hst := Stp.ev' (ls := [[b17], B2_14, B5_14, [b7], [b5], [b3], M]) he19 (mem_flat 0 rfl)
  replace hs_p0_0 := hs_p0_0.step hst
  replace hs_p1_1 := hs_p1_1.step hst
  replace hb3 := he19.box hb3 (hms.apart 5 0 rfl rfl rfl _ (List.mem_singleton.2 rfl))
  replace hb5 := he19.box hb5 (hms.apart 4 0 rfl rfl rfl _ (List.mem_singleton.2 rfl))
  replace hb7 := he19.box hb7 (hms.apart 3 0 rfl rfl rfl _ (List.mem_singleton.2 rfl))
  replace hf14_1 := hf14_1.step (plain_int _) he19 (hms.apart 1 0 rfl rfl rfl)
  replace hf14_2 := hf14_2.step (plain_int _) he19 (hms.apart 2 0 rfl rfl rfl)
  replace hms := hms.ev he19
  replace hev := hev.then he19 (fun b hb => .inr (hfr.at 0 rfl b hb))
  replace hb17 := hb19
  refine x_end rfl (k_then ?_)
  refine c_norm [(4, .pointer (some ⟨b7, 0, none⟩)), (7, .pointer (some ⟨b17, 0, none⟩))] ⟨rfl, rfl, trivial⟩ (fun J => ?_)
  refine c_seq (c_plain ?_)
  refine x_fieldAddr (xv := .pointer (some ⟨b17, 0, none⟩)) (.pointer (some ⟨b17, 1, none⟩)) rfl rfl rfl (reads_field tfld85_1 _ _) ?_
  refine x_load (xv := .pointer (some ⟨b17, 1, none⟩)) (.slice a3_14 (x13.2.1).length c3_14) rfl rfl rfl (reads_box tcell32 hb17 nn 1 _ rfl) ?_
  refine x_fieldAddr (xv := .pointer (some ⟨b17, 0, none⟩)) (.pointer (some ⟨b17, 2, none⟩)) rfl rfl rfl (reads_field tfld85_2 _ _) ?_
  refine x_load (xv := .pointer (some ⟨b17, 2, none⟩)) (.int .i64 x13.2.2.1) rfl rfl rfl (reads_box tcell3 hb17 nn 2 _ rfl) ?_
  refine x_build (vs := [(0, .slice a3_14 (x13.2.1).length c3_14), (1, .int .i64 x13.2.2.1)]) (.agg #[.slice a3_14 (x13.2.1).length c3_14, .int .i64 x13.2.2.1]) rfl rfl rfl (fun _ _ => by kernel_rfl) ?_
  obtain ⟨w20, hr20, hb20, he20⟩ := store_boxagg 0 [.slice a3_14 (x13.2.1).length c3_14, .int .i64 x13.2.2.1] #[.slice a3_14 (x13.2.1).length c3_14, .int .i64 x13.2.2.1] tagg34 hb7 rfl rfl rfl
  refine x_store w20 (xv := .pointer (some ⟨b7, 0, none⟩)) (yv := .agg #[.slice a3_14 (x13.2.1).length c3_14, .int .i64 x13.2.2.1]) rfl rfl rfl rfl hr20 ?_
  refine ⟨.inl rfl, ?_⟩
  have hst := Stp.ev' (ls := [[b17], B2_14, B5_14, [b7], [b5], [b3], M]) he20 (mem_flat 3 rfl)
  replace hs_p0_0 := hs_p0_0.step hst
  replace hs_p1_1 := hs_p1_1.step hst
  replace hb3 := he20.box hb3 (hms.apart 5 3 rfl rfl rfl _ (List.mem_singleton.2 rfl))
  replace hb5 := he20.box hb5 (hms.apart 4 3 rfl rfl rfl _ (List.mem_singleton.2 rfl))
  replace hf14_1 := hf14_1.step (plain_int _) he20 (hms.apart 1 3 rfl rfl rfl)
  replace hf14_2 := hf14_2.step (plain_int _) he20 (hms.apart 2 3 rfl rfl rfl)
  replace hb17 := he20.box hb17 (hms.apart 0 3 rfl rfl rfl _ (List.mem_singleton.2 rfl))
  replace hms := hms.ev he20
  replace hev := hev.then he20 (fun b hb => .inr (hfr.at 3 rfl b hb))
  replace hb7 := hb20
  refine x_pure 1 [(5, .int .i64 0)] _ _ _ (by kernel_rfl) ?_
  refine x_end rfl (k_then ?_)
  refine c_ret ?_
  refine r_ret (r_vals [.agg #[.slice a3_14 (x13.2.1).length c3_14, .int .i64 x13.2.2.1], .int .i64 0] ⟨⟨_, rfl, loadVar_of_reads (reads_boxagg (Mo := []) 0 [.slice a3_14 (x13.2.1).length c3_14, .int .i64 x13.2.2.1] tagg34 hb7 nn rfl)⟩, rfl, trivial⟩ ?_)
  have hx := some_inj h
  subst hx
  have hmr : MS w20 [B5_14, M] := hms.pick [some 2, some 6] _ rfl
  have hsu : ∀ x ∈ fl [B5_14, M], x ∈ fl [[b17], B2_14, B5_14, [b7], [b5], [b3], M] := pick_sub [some 2, some 6] _ rfl
  have hfe : FR w.heap.size [B5_14] := hfr.pick [some 2] _ rfl
  exact ⟨a3_14, c3_14, B5_14, rfl, hev, hmr, hfe, hf14_2⟩
def r14_Loads_L19 (p0_0 : List (Int × Int × Int × Int)) (p1_0 : Int) (p1_1 : List Int) (x_s8_l14 : Int) (s : (List Int) × Int) : Option (Step ((List Int) × Int) (List Int)) :=
match s with
| (d13_l19, b_s9_l19) =>
(if (decide (b_s9_l19 < p1_0)) = true then
((idx p1_1 x_s8_l14).bind fun x21 =>
(if 0 ≤ b_s9_l19 then
(if ((IntKind.i64.wrap ↑(BitVec.ofInt IntKind.i64.bits (Int.fdiv x21 (2 ^ (min (Int.toNat (b_s9_l19)) IntKind.i64.bits))) &&& BitVec.ofInt IntKind.i64.bits 1).toNat) == 1) = true then
((idx d13_l19 b_s9_l19).bind fun x23 =>
((idx p0_0 x_s8_l14).bind fun x25 =>
((idx d13_l19 b_s9_l19).bind fun x27 =>
some (.next ((d13_l19.set (Int.toNat b_s9_l19) (IntKind.i64.wrap (x23 + x25.2.2.2))), IntKind.i64.wrap (b_s9_l19 + 1))))))
else
some (.next (d13_l19, IntKind.i64.wrap (b_s9_l19 + 1))))
else none))
else
some (.done d13_l19))

def r14_Loads_L14 (p0_0 : List (Int × Int × Int × Int)) (p1_0 : Int) (p1_1 : List Int) (s : (List Int) × Int) : Option (Step ((List Int) × Int) (List Int)) :=
match s with
| (d13_l14, x_s8_l14) =>
(if (decide (x_s8_l14 < ((p0_0).length : Int))) = true then
((idx p0_0 x_s8_l14).bind fun x17 =>
((loop (r14_Loads_L19 p0_0 p1_0 p1_1 x_s8_l14) (d13_l14, x17.2.2.1)).bind fun d => match d with
| d13_x19 => ((idx p0_0 x_s8_l14).bind fun x30 =>
((idx d13_x19 (IntKind.i64.wrap (p1_0 + x30.1))).bind fun x32 =>
((idx p0_0 x_s8_l14).bind fun x34 =>
((idx d13_x19 (IntKind.i64.wrap (p1_0 + x30.1))).bind fun x36 =>
some (.next ((d13_x19.set (Int.toNat (IntKind.i64.wrap (p1_0 + x30.1))) (IntKind.i64.wrap (x32 + x34.2.2.2))), IntKind.i64.wrap (x_s8_l14 + 1)))))))))
else
some (.done d13_l14))

def r14_Loads (p0_0 : List (Int × Int × Int × Int)) (p0_1 : Int) (p1_0 : Int) (p1_1 : List Int) : Option ((List Int) × Int) :=
((r14_Valid p0_0 p0_1 p1_0 p1_1).bind fun x8 =>
(if (x8 != 0) = true then
some ([], x8)
else
((r14_trains p0_0 p0_1).bind fun x10 =>
(if 0 ≤ IntKind.i64.wrap (p1_0 + x10) ∧ IntKind.i64.wrap (p1_0 + x10) ≤ 4294967296 then
((loop (r14_Loads_L14 p0_0 p1_0 p1_1) ((List.replicate (Int.toNat (IntKind.i64.wrap (p1_0 + x10))) 0 : List Int), 0)).bind fun d => match d with
| d13_x14 => some (d13_x14, 0))
else none))))

theorem r14_Loads_w (a_p0_0 : Option Addr) (c_p0_0 : Nat) (p0_0 : List (Int × Int × Int × Int)) (p0_1 : Int) (p1_0 : Int) (a_p1_1 : Option Addr) (c_p1_1 : Nat) (p1_1 : List Int) (r : (List Int) × Int) (w : World) (M : List Nat) (hms : MS w [M]) (hs_p0_0 : SlR (eProd (eInt .i64) (eProd (eInt .i64) (eProd (eInt .i64) (eInt .i64)))) w (fl [M]) a_p0_0 c_p0_0 p0_0) (hs_p1_1 : SlR (eInt .i64) w (fl [M]) a_p1_1 c_p1_1 p1_1) (h : r14_Loads p0_0 p0_1 p1_0 p1_1 = some r) : CallVC Try.prog 39 [.agg #[.slice a_p0_0 (p0_0).length c_p0_0, .int .i64 p0_1], .agg #[.int .i64 p1_0, .slice a_p1_1 (p1_1).length c_p1_1]] w fun v w' => ∃ (a0' : Option Addr), ∃ (c0' : Nat), v = .tuple #[.slice a0' (r.1).length c0', .int .i64 r.2] ∧ Ev [] w w' ∧ MS w' [blk a0', M] ∧ FR w.heap.size [blk a0'] ∧ OwnS (eInt .i64) 3 w' (fl [blk a0', M]) a0' c0' r.1 := by
  refine calls_vc hmx Try.func39 (by kernel_rfl) rfl (rs := [.tmp 4, .tmp 5]) rfl (by kernel_rfl) (args := [.agg #[.slice a_p0_0 (p0_0).length c_p0_0, .int .i64 p0_1], .agg #[.int .i64 p1_0, .slice a_p1_1 (p1_1).length c_p1_1]]) rfl ?_
  have hev : Ev [] w w := Ev.refl _ _
  have hfr : FR w.heap.size [] := FR.nil _
  refine c_seq (c_plain ?_)
  refine x_box (xv := .agg #[.slice a_p0_0 (p0_0).length c_p0_0, .int .i64 p0_1]) rfl rfl rfl (fun b3 w3 hq3 hb3 he3 _ => ?_)
  replace hb3 : w3.heap[b3]? = some (.cells #[.slice a_p0_0 (p0_0).length c_p0_0, .int .i64 p0_1] 27 (0, 0)) := hb3
  refine ⟨.inl rfl, ?_⟩
  have hst := Stp.box (ls := [M]) he3 hq3
  replace hs_p0_0 := hs_p0_0.step hst
  replace hs_p1_1 := hs_p1_1.step hst
  replace hms := hms.box he3 hq3 hb3
  replace hfr := hfr.box hev.size hq3
  replace hev := hev.ext he3
  refine x_box (xv := .agg #[.int .i64 p1_0, .slice a_p1_1 (p1_1).length c_p1_1]) rfl rfl rfl (fun b5 w5 hq5 hb5 he5 _ => ?_)
  replace hb5 : w5.heap[b5]? = some (.cells #[.int .i64 p1_0, .slice a_p1_1 (p1_1).length c_p1_1] 30 (0, 0)) := hb5
  refine ⟨.inl rfl, ?_⟩
  have hst := Stp.box (ls := [[b3], M]) he5 hq5
  replace hs_p0_0 := hs_p0_0.step hst
  replace hs_p1_1 := hs_p1_1.step hst
  replace hb3 := he5.box hb3 nn
  replace hms := hms.box he5 hq5 hb5
  replace hfr := hfr.box hev.size hq5
  replace hev := hev.ext he5
  refine x_pure 2 [(4, .slice none 0 0), (5, .int .i64 0)] _ _ _ (by kernel_rfl) ?_
  refine x_end rfl (k_then ?_)
  refine c_seq ?_
  refine c_seq (c_plain ?_)
  refine x_load (xv := .pointer (some ⟨b3, 0, none⟩)) (.agg #[.slice a_p0_0 (p0_0).length c_p0_0, .int .i64 p0_1]) rfl rfl rfl (reads_boxagg 0 [.slice a_p0_0 (p0_0).length c_p0_0, .int .i64 p0_1] tagg27 hb3 nn rfl) ?_
  refine x_load (xv := .pointer (some ⟨b5, 0, none⟩)) (.agg #[.int .i64 p1_0, .slice a_p1_1 (p1_1).length c_p1_1]) rfl rfl rfl (reads_boxagg 0 [.int .i64 p1_0, .slice a_p1_1 (p1_1).length c_p1_1] tagg30 hb5 nn rfl) ?_
  obtain ⟨x8, hx, h⟩ := bind_some h
  have hpk : MS w5 ([] ++ [[b5], [b3], M]) := hms.pick [some 0, some 1, some 2] _ rfl
  have hsb0 : ∀ x ∈ fl ([] ++ [[b5], [b3], M]), x ∈ fl [[b5], [b3], M] := pick_sub [some 0, some 1, some 2] _ rfl
  have hsb : ∀ x ∈ fl ([] ++ [(fl [[b5], [b3], M])]), x ∈ fl [[b5], [b3], M] := fun x hx => hsb0 x (fl_unfold x hx)
  have hcall := r14_Valid_w a_p0_0 c_p0_0 p0_0 p0_1 p1_0 a_p1_1 c_p1_1 p1_1 _ w5 (fl [[b5], [b3], M]) (MS.fold (P := []) hpk) (hs_p0_0.sub hsb) (hs_p1_1.sub hsb) hx
  refine x_call 37 #[] #[] [.agg #[.slice a_p0_0 (p0_0).length c_p0_0, .int .i64 p0_1], .agg #[.int .i64 p1_0, .slice a_p1_1 (p1_1).length c_p1_1]] _ rfl rfl rfl rfl hcall ?_
  rintro v w9 ⟨rfl, he9⟩
  clear hcall hx
  refine ⟨.inl rfl, ?_⟩
  have hst := Stp.ext (ls := [[b5], [b3], M]) he9
  replace hs_p0_0 := hs_p0_0.step hst
  replace hs_p1_1 := hs_p1_1.step hst
  replace hb3 := he9.box hb3 nn
  replace hb5 := he9.box hb5 nn
  replace hms := hms.ev he9
  replace hev := hev.ext he9
  clear hpk hsb hsb0
  refine x_pure 1 [(6, .int .i64 x8)] _ _ _ (by kernel_rfl) ?_
  refine x_end rfl (k_then ?_)
  refine c_seq (c_plain ?_)
  refine x_pure 2 [(13, .int .i64 x8), (14, .bool (x8 != 0))] _ _ _ (by kernel_rfl) ?_
  refine x_end rfl (k_then ?_)
  refine c_cond (x8 != 0) rfl (fun hb => ?_) (fun hb => ?_)
  · replace h := ite_t hb h
    refine c_seq (c_plain ?_)
    refine x_pure 3 [(15, .int .i64 x8), (4, .slice none 0 0), (5, .int .i64 x8)] _ _ _ (by kernel_rfl) ?_
    refine x_end rfl (k_then ?_)
    refine c_norm [(4, .slice none 0 0), (5, .int .i64 x8)] ⟨rfl, rfl, trivial⟩ (fun J => ?_)
    refine c_ret ?_
    refine k_then_ret ?_
    refine r_ret (r_vals [.slice none 0 0, .int .i64 x8] ⟨rfl, rfl, trivial⟩ ?_)
    have hx := some_inj h
    subst hx
    have hmr : MS w9 [blk none, M] := hms.pick [none, some 2] _ rfl
    have hsu : ∀ x ∈ fl [blk none, M], x ∈ fl [[b5], [b3], M] := pick_sub [none, some 2] _ rfl
    have hfe : FR w.heap.size [blk none] := hfr.pick [none] _ rfl
    exact ⟨none, 0, rfl, hev, hmr, hfe, OwnS.nil _ _ _ _⟩
  replace h := ite_f hb h
  refine c_skip ?_
  refine k_then ?_
  refine c_seq ?_
  refine c_drawn [] [(0, false), (1, false), (2, false), (3, false), (4, false), (5, false), (6, false)] _ (by kernel_rfl) rfl ?_
  have hst := Stp.ext (ls := [[b5], [b3], M]) (Ev.drew w9)
  replace hs_p0_0 := hs_p0_0.step hst
  replace hs_p1_1 := hs_p1_1.step hst
  replace hb3 := (Ev.drew w9).box hb3 nn
  replace hb5 := (Ev.drew w9).box hb5 nn
  replace hms := hms.ev (Ev.drew w9)
  replace hev := hev.ext (Ev.drew w9)
  refine x_fieldAddr (xv := .pointer (some ⟨b5, 0, none⟩)) (.pointer (some ⟨b5, 0, none⟩)) rfl rfl rfl (reads_field tfld30_0 _ _) ?_
  refine x_load (xv := .pointer (some ⟨b5, 0, none⟩)) (.int .i64 p1_0) rfl rfl rfl (reads_box tcell3 hb5 nn 0 _ rfl) ?_
  refine x_load (xv := .pointer (some ⟨b3, 0, none⟩)) (.agg #[.slice a_p0_0 (p0_0).length c_p0_0, .int .i64 p0_1]) rfl rfl rfl (reads_boxagg 0 [.slice a_p0_0 (p0_0).length c_p0_0, .int .i64 p0_1] tagg27 hb3 nn rfl) ?_
  obtain ⟨x10, hx, h⟩ := bind_some h
  have hpk : MS (w9).drew ([] ++ [[b5], [b3], M]) := hms.pick [some 0, some 1, some 2] _ rfl
  have hsb0 : ∀ x ∈ fl ([] ++ [[b5], [b3], M]), x ∈ fl [[b5], [b3], M] := pick_sub [some 0, some 1, some 2] _ rfl
  have hsb : ∀ x ∈ fl ([] ++ [(fl [[b5], [b3], M])]), x ∈ fl [[b5], [b3], M] := fun x hx => hsb0 x (fl_unfold x hx)
  have hcall := r14_trains_w a_p0_0 c_p0_0 p0_0 p0_1 _ (w9).drew (fl [[b5], [b3], M]) (MS.fold (P := []) hpk) (hs_p0_0.sub hsb) hx
  refine x_call 52 #[] #[] [.agg #[.slice a_p0_0 (p0_0).length c_p0_0, .int .i64 p0_1]] _ rfl rfl rfl rfl hcall ?_
  rintro v w11 ⟨rfl, he11⟩
  clear hcall hx
  refine ⟨.inr he11, ?_⟩
  have hst := Stp.ext (ls := [[b5], [b3], M]) he11
  replace hs_p0_0 := hs_p0_0.step hst
  replace hs_p1_1 := hs_p1_1.step hst
  replace hb3 := he11.box hb3 nn
  replace hb5 := he11.box hb5 nn
  replace hms := hms.ev he11
  replace hev := hev.ext he11
  clear hpk hsb hsb0
  refine x_pure 1 [(20, .int .i64 (IntKind.i64.wrap (p1_0 + x10)))] _ _ _ (by kernel_rfl) ?_
  have hg := guard_l h
  replace h := guard_r h
  obtain ⟨a12, c12, w12, hr12, he12, hn12, hw12⟩ := own_make (e := (eInt .i64)) tel22 w11 (IntKind.i64.wrap (p1_0 + x10)) hg.1 hg.2 0 (fun _ _ => rfl)
  refine x_makeSlice _ w12 (xv := .int .i64 (IntKind.i64.wrap (p1_0 + x10))) (yv := .int .i64 (IntKind.i64.wrap (p1_0 + x10))) rfl rfl rfl rfl hr12 ?_
  refine ⟨.inr he12, ?_⟩
  have hst := Stp.push (ls := [[b5], [b3], M]) (l := blk a12) he12 (fun _ h => by cases h) (fun b hb => (hn12 b hb).1)
  replace hs_p0_0 := hs_p0_0.step hst
  replace hs_p1_1 := hs_p1_1.step hst
  replace hb3 := he12.box hb3 nn
  replace hb5 := he12.box hb5 nn
  replace hms := hms.push he12 hn12
  replace hfr := hfr.push (fun b hb => Nat.le_trans hev.size (hn12 b hb).1)
  replace hev := hev.ext he12
  have ho12 := hw12 (fl [blk a12, [b5], [b3], M])
  clear hw12
  refine x_pure 1 [(7, .slice a12 ((List.replicate (Int.toNat (IntKind.i64.wrap (p1_0 + x10))) 0 : List Int)).length c12)] _ _ _ (by kernel_rfl) ?_
  refine x_end rfl (k_then ?_)
  refine c_norm [(2, .pointer (some ⟨b3, 0, none⟩)), (3, .pointer (some ⟨b5, 0, none⟩)), (7, .slice a12 ((List.replicate (Int.toNat (IntKind.i64.wrap (p1_0 + x10))) 0 : List Int)).length c12)] ⟨rfl, rfl, rfl, trivial⟩ (fun J => ?_)
  refine c_seq ?_
  refine c_seq (c_plain ?_)
  refine x_pure 1 [(8, .int .i64 0)] _ _ _ (by kernel_rfl) ?_
  refine x_end rfl (k_then ?_)
  refine c_block ?_
  have hpk : MS w12 [[b3], [b5], blk a12, M] := hms.pick [some 2, some 1, some 0, some 3] _ rfl
  have hsu : ∀ x ∈ fl [[b3], [b5], blk a12, M], x ∈ fl [blk a12, [b5], [b3], M] := pick_sub [some 2, some 1, some 0, some 3] _ rfl
  replace hs_p0_0 := hs_p0_0.sub hsu
  replace hs_p1_1 := hs_p1_1.sub hsu
  replace ho12 := ho12.sub hsu
  replace hms := hpk
  replace hfr : FR w.heap.size [[b3], [b5], blk a12] := hfr.pick [some 2, some 1, some 0] _ rfl
  clear hpk hsu
  obtain ⟨d14, hd14, h14⟩ := bind_some h
  obtain ⟨m14, hd14⟩ := loop_some hd14
  refine c_loop (loop_rule hmx (σ := Nat × (List Int) × Int × Option Addr) (fun s => match s with | (_, d13_l14, x_s8_l14, a13_l14) => [(2, .pointer (some ⟨b3, 0, none⟩)), (3, .pointer (some ⟨b5, 0, none⟩)), (7, .slice a13_l14 (d13_l14).length c12), (8, .int .i64 x_s8_l14)]) (fun s w' => match s with | (m, d13_l14, x_s8_l14, a13_l14) => loopN (r14_Loads_L14 p0_0 p1_0 p1_1) m (d13_l14, x_s8_l14) = some d14 ∧ Ev [] w w' ∧ MS w' [[b3], [b5], blk a13_l14, M] ∧ FR w.heap.size [[b3], [b5], blk a13_l14] ∧ SlR (eProd (eInt .i64) (eProd (eInt .i64) (eProd (eInt .i64) (eInt .i64)))) w' (fl [[b3], [b5], blk a13_l14, M]) a_p0_0 c_p0_0 p0_0 ∧ w'.heap[b3]? = some (.cells #[.slice a_p0_0 (p0_0).length c_p0_0, .int .i64 p0_1] 27 (0, 0)) ∧ SlR (eInt .i64) w' (fl [[b3], [b5], blk a13_l14, M]) a_p1_1 c_p1_1 p1_1 ∧ w'.heap[b5]? = some (.cells #[.int .i64 p1_0, .slice a_p1_1 (p1_1).length c_p1_1] 30 (0, 0)) ∧ OwnS (eInt .i64) 3 w' (fl [[b3], [b5], blk a13_l14, M]) a13_l14 c12 d13_l14) (fun s => s.1) (m14, (List.replicate (Int.toNat (IntKind.i64.wrap (p1_0 + x10))) 0 : List Int), 0, a12) ⟨rfl, rfl, rfl, rfl, trivial⟩ ⟨hd14, hev, hms, hfr, hs_p0_0, hb3, hs_p1_1, hb5, ho12⟩ ?_)
  rintro ⟨m14, d13_l14, x_s8_l14, a13_l14⟩ J wl14 ⟨hn14, hev, hms, hfr, hs_p0_0, hb3, hs_p1_1, hb5, ho12⟩
  rcases m14 with _ | m14
  · exact (loopN_zero hn14).elim
  obtain ⟨t14, h, hn14⟩ := bind_some hn14
  refine c_seq ?_
  refine c_seq (c_plain ?_)
  refine x_pure 1 [(22, .int .i64 x_s8_l14)] _ _ _ (by kernel_rfl) ?_
  refine x_fieldAddr (xv := .pointer (some ⟨b3, 0, none⟩)) (.pointer (some ⟨b3, 0, none⟩)) rfl rfl rfl (reads_field tfld27_0 _ _) ?_
  refine x_load (xv := .pointer (some ⟨b3, 0, none⟩)) (.slice a_p0_0 (p0_0).length c_p0_0) rfl rfl rfl (reads_box tcell25 hb3 nn 0 _ rfl) ?_
  refine x_len (vs := [.slice a_p0_0 (p0_0).length c_p0_0]) (.int .i64 ((p0_0).length : Int)) rfl rfl rfl (reads_len tsl25 _ _ _ _ _) ?_
  refine x_pure 1 [(26, .bool (decide (x_s8_l14 < ((p0_0).length : Int))))] _ _ _ (by kernel_rfl) ?_
  refine x_end rfl (k_then ?_)
  refine c_norm [(2, .pointer (some ⟨b3, 0, none⟩)), (3, .pointer (some ⟨b5, 0, none⟩)), (7, .slice a13_l14 (d13_l14).length c12), (8, .int .i64 x_s8_l14), (26, .bool (decide (x_s8_l14 < ((p0_0).length : Int))))] ⟨rfl, rfl, rfl, rfl, rfl, trivial⟩ (fun J => ?_)
  refine c_cond (decide (x_s8_l14 < ((p0_0).length : Int))) rfl (fun hb => ?_) (fun hb => ?_)
  · replace h := ite_t hb h
    refine c_skip ?_
    refine k_then ?_
    refine c_seq ?_
    refine c_block ?_
    refine c_seq ?_
    refine c_seq (c_plain ?_)
    refine x_fieldAddr (xv := .pointer (some ⟨b3, 0, none⟩)) (.pointer (some ⟨b3, 0, none⟩)) rfl rfl rfl (reads_field tfld27_0 _ _) ?_
    refine x_load (xv := .pointer (some ⟨b3, 0, none⟩)) (.slice a_p0_0 (p0_0).length c_p0_0) rfl rfl rfl (reads_box tcell25 hb3 nn 0 _ rfl) ?_
    refine x_pure 1 [(31, .int .i64 x_s8_l14)] _ _ _ (by kernel_rfl) ?_
    obtain ⟨x17, hx17, h⟩ := bind_some h
    obtain ⟨ad17, cs17, hr17, hc17, hR⟩ := reads_index (Mo := []) tsl25 hs_p0_0 hx17
    obtain ⟨_, _, rfl, rfl, ⟨_, _, rfl, rfl, ⟨_, _, rfl, rfl, rfl⟩⟩⟩ := hR
    refine x_indexAddr (xv := .slice a_p0_0 (p0_0).length c_p0_0) (yv := .int .i64 x_s8_l14) (.pointer (some ad17)) rfl rfl rfl rfl hr17 ?_
    refine x_fieldAddr (xv := .pointer (some ad17)) (.pointer (some (Addr.add ad17 2))) rfl rfl rfl (reads_field tfld39_2 _ _) ?_
    refine x_load (xv := .pointer (some (Addr.add ad17 2))) (.int .i64 x17.2.2.1) rfl rfl rfl (reads_cell tcell3 hc17 (fun _ h => by cases h) 2 _ rfl) ?_
    refine x_pure 1 [(9, .int .i64 x17.2.2.1)] _ _ _ (by kernel_rfl) ?_
    refine x_end rfl (k_then ?_)
    refine c_block ?_
    obtain ⟨d19, hd19, h19⟩ := bind_some h
    obtain ⟨m19, hd19⟩ := loop_some hd19
    refine c_loop (loop_rule hmx (σ := Nat × (List Int) × Int × Option Addr) (fun s => match s with | (_, d13_l19, b_s9_l19, a13_l19) => [(2, .pointer (some ⟨b3, 0, none⟩)), (3, .pointer (some ⟨b5, 0, none⟩)), (7, .slice a13_l19 (d13_l19).length c12), (8, .int .i64 x_s8_l14), (9, .int .i64 b_s9_l19)]) (fun s w' => match s with | (m, d13_l19, b_s9_l19, a13_l19) => loopN (r14_Loads_L19 p0_0 p1_0 p1_1 x_s8_l14) m (d13_l19, b_s9_l19) = some d19 ∧ Ev [] w w' ∧ MS w' [[b3], [b5], blk a13_l19, M] ∧ FR w.heap.size [[b3], [b5], blk a13_l19] ∧ SlR (eProd (eInt .i64) (eProd (eInt .i64) (eProd (eInt .i64) (eInt .i64)))) w' (fl [[b3], [b5], blk a13_l19, M]) a_p0_0 c_p0_0 p0_0 ∧ w'.heap[b3]? = some (.cells #[.slice a_p0_0 (p0_0).length c_p0_0, .int .i64 p0_1] 27 (0, 0)) ∧ SlR (eInt .i64) w' (fl [[b3], [b5], blk a13_l19, M]) a_p1_1 c_p1_1 p1_1 ∧ w'.heap[b5]? = some (.cells #[.int .i64 p1_0, .slice a_p1_1 (p1_1).length c_p1_1] 30 (0, 0)) ∧ OwnS (eInt .i64) 3 w' (fl [[b3], [b5], blk a13_l19, M]) a13_l19 c12 d13_l19) (fun s => s.1) (m19, d13_l14, x17.2.2.1, a13_l14) ⟨rfl, rfl, rfl, rfl, rfl, trivial⟩ ⟨hd19, hev, hms, hfr, hs_p0_0, hb3, hs_p1_1, hb5, ho12⟩ ?_)
    rintro ⟨m19, d13_l19, b_s9_l19, a13_l19⟩ J wl19 ⟨hn19, hev, hms, hfr, hs_p0_0, hb3, hs_p1_1, hb5, ho12⟩
    rcases m19 with _ | m19
    · exact (loopN_zero hn19).elim
    obtain ⟨t19, h, hn19⟩ := bind_some hn19
    refine c_seq ?_
    refine c_seq (c_plain ?_)
    refine x_pure 1 [(35, .int .i64 b_s9_l19)] _ _ _ (by kernel_rfl) ?_
    refine x_fieldAddr (xv := .pointer (some ⟨b5, 0, none⟩)) (.pointer (some ⟨b5, 0, none⟩)) rfl rfl rfl (reads_field tfld30_0 _ _) ?_
    refine x_load (xv := .pointer (some ⟨b5, 0, none⟩)) (.int .i64 p1_0) rfl rfl rfl (reads_box tcell3 hb5 nn 0 _ rfl) ?_
    refine x_pure 1 [(38, .bool (decide (b_s9_l19 < p1_0)))] _ _ _ (by kernel_rfl) ?_
    refine x_end rfl (k_then ?_)
    refine c_norm [(2, .pointer (some ⟨b3, 0, none⟩)), (3, .pointer (some ⟨b5, 0, none⟩)), (7, .slice a13_l19 (d13_l19).length c12), (8, .int .i64 x_s8_l14), (9, .int .i64 b_s9_l19), (38, .bool (decide (b_s9_l19 < p1_0)))] ⟨rfl, rfl, rfl, rfl, rfl, rfl, trivial⟩ (fun J => ?_)
    refine c_cond (decide (b_s9_l19 < p1_0)) rfl (fun hb => ?_) (fun hb => ?_)
    · replace h := ite_t hb h
      refine c_skip ?_
      refine k_then ?_
      refine c_seq ?_
      refine c_block ?_
      refine c_seq (c_plain ?_)
      refine x_fieldAddr (xv := .pointer (some ⟨b5, 0, none⟩)) (.pointer (some ⟨b5, 1, none⟩)) rfl rfl rfl (reads_field tfld30_1 _ _) ?_
      refine x_load (xv := .pointer (some ⟨b5, 1, none⟩)) (.slice a_p1_1 (p1_1).length c_p1_1) rfl rfl rfl (reads_box tcell22 hb5 nn 1 _ rfl) ?_
      refine x_pure 1 [(43, .int .i64 x_s8_l14)] _ _ _ (by kernel_rfl) ?_
      obtain ⟨x21, hx21, h⟩ := bind_some h
      obtain ⟨ad21, cs21, hr21, hc21, hR⟩ := reads_index (Mo := []) tsl22 hs_p1_1 hx21
      obtain rfl := hR
      refine x_indexAddr (xv := .slice a_p1_1 (p1_1).length c_p1_1) (yv := .int .i64 x_s8_l14) (.pointer (some ad21)) rfl rfl rfl rfl hr21 ?_
      refine x_load (xv := .pointer (some ad21)) (.int .i64 x21) rfl rfl rfl (reads_cell0 tcell3 hc21 (fun _ h => by cases h)) ?_
      refine x_pure 1 [(46, .int .i64 b_s9_l19)] _ _ _ (by kernel_rfl) ?_
      refine x_binop (.int .i64 (Int.fdiv x21 (2 ^ (min (Int.toNat (b_s9_l19)) IntKind.i64.bits)))) (.int .i64 x21) (.int .i64 b_s9_l19) rfl rfl rfl rfl (vb_shr (guard_l h)) ?_
      replace h := guard_r h
      refine x_pure 2 [(48, .int .i64 (IntKind.i64.wrap ↑(BitVec.ofInt IntKind.i64.bits (Int.fdiv x21 (2 ^ (min (Int.toNat (b_s9_l19)) IntKind.i64.bits))) &&& BitVec.ofInt IntKind.i64.bits 1).toNat)), (49, .bool ((IntKind.i64.wrap ↑(BitVec.ofInt IntKind.i64.bits (Int.fdiv x21 (2 ^ (min (Int.toNat (b_s9_l19)) IntKind.i64.bits))) &&& BitVec.ofInt IntKind.i64.bits 1).toNat) == 1))] _ _ _ (by kernel_rfl) ?_
      refine x_end rfl (k_then ?_)
      refine c_cond ((IntKind.i64.wrap ↑(BitVec.ofInt IntKind.i64.bits (Int.fdiv x21 (2 ^ (min (Int.toNat (b_s9_l19)) IntKind.i64.bits))) &&& BitVec.ofInt IntKind.i64.bits 1).toNat) == 1) rfl (fun hb => ?_) (fun hb => ?_)
      · replace h := ite_t hb h
        refine c_drawn [] [(0, false), (1, false), (2, false), (3, false), (4, false), (5, false), (6, false), (7, false), (8, false), (9, false), (10, false), (11, false), (12, true)] _ (by kernel_rfl) rfl ?_
        have hst := Stp.ext (ls := [[b3], [b5], blk a13_l19, M]) (Ev.drew wl19)
        replace hb3 := (Ev.drew wl19).box hb3 nn
        replace hs_p0_0 := hs_p0_0.step hst
        replace hb5 := (Ev.drew wl19).box hb5 nn
        replace hs_p1_1 := hs_p1_1.step hst
        replace ho12 := ho12.step hst (Ev.drew wl19) nn2
        replace hms := hms.ev (Ev.drew wl19)
        replace hev := hev.ext (Ev.drew wl19)
        refine x_pure 2 [(50, .slice a13_l19 (d13_l19).length c12), (51, .int .i64 b_s9_l19)] _ _ _ (by kernel_rfl) ?_
        obtain ⟨x23, hx23, h⟩ := bind_some h
        obtain ⟨g23, cs23, ha, hr23, hc23, hR⟩ := own_index (Mo := []) tsl22 ho12 hx23
        subst ha
        obtain rfl := hR
        refine x_indexAddr (xv := .slice (some ⟨g23, 0, none⟩) (d13_l19).length c12) (yv := .int .i64 b_s9_l19) (.pointer (some ⟨g23, (Int.toNat b_s9_l19) * (eInt .i64).n, none⟩)) rfl rfl rfl rfl hr23 ?_
        refine x_load (xv := .pointer (some ⟨g23, (Int.toNat b_s9_l19) * (eInt .i64).n, none⟩)) (.int .i64 x23) rfl rfl rfl (reads_cell0 tcell3 hc23 (fun _ h => by cases h)) ?_
        refine x_fieldAddr (xv := .pointer (some ⟨b3, 0, none⟩)) (.pointer (some ⟨b3, 0, none⟩)) rfl rfl rfl (reads_field tfld27_0 _ _) ?_
        refine x_load (xv := .pointer (some ⟨b3, 0, none⟩)) (.slice a_p0_0 (p0_0).length c_p0_0) rfl rfl rfl (reads_box tcell25 hb3 nn 0 _ rfl) ?_
        refine x_pure 1 [(56, .int .i64 x_s8_l14)] _ _ _ (by kernel_rfl) ?_
        obtain ⟨x25, hx25, h⟩ := bind_some h
        obtain ⟨ad25, cs25, hr25, hc25, hR⟩ := reads_index (Mo := []) tsl25 hs_p0_0 hx25
        obtain ⟨_, _, rfl, rfl, ⟨_, _, rfl, rfl, ⟨_, _, rfl, rfl, rfl⟩⟩⟩ := hR
        refine x_indexAddr (xv := .slice a_p0_0 (p0_0).length c_p0_0) (yv := .int .i64 x_s8_l14) (.pointer (some ad25)) rfl rfl rfl rfl hr25 ?_
        refine x_fieldAddr (xv := .pointer (some ad25)) (.pointer (some (Addr.add ad25 3))) rfl rfl rfl (reads_field tfld39_3 _ _) ?_
        refine x_load (xv := .pointer (some (Addr.add ad25 3))) (.int .i64 x25.2.2.2) rfl rfl rfl (reads_cell tcell3 hc25 (fun _ h => by cases h) 3 _ rfl) ?_
        refine x_pure 1 [(60, .int .i64 (IntKind.i64.wrap (x23 + x25.2.2.2)))] _ _ _ (by kernel_rfl) ?_
        obtain ⟨x27, hx27, h⟩ := bind_some h
        obtain ⟨g27, cs27, ha, hr27, hc27, hR⟩ := own_index (Mo := []) tsl22 ho12 hx27
        have hg : g23 = g27 := by cases ha; rfl
        subst hg
        obtain rfl := hR
        refine x_indexAddr (xv := .slice (some ⟨g23, 0, none⟩) (d13_l19).length c12) (yv := .int .i64 b_s9_l19) (.pointer (some ⟨g23, (Int.toNat b_s9_l19) * (eInt .i64).n, none⟩)) rfl rfl rfl rfl hr27 ?_
        obtain ⟨w29, hr29, he29, ho29⟩ := own_store (y := IntKind.i64.wrap (x23 + x25.2.2.2)) 0 (.int .i64 (IntKind.i64.wrap (x23 + x25.2.2.2))) tcell3 ho12 (mem_flat 2 rfl _ (List.mem_singleton.2 rfl)) hx27 rfl rfl (fun _ _ _ _ => by simp_all [eInt, eBool])
        refine x_store w29 (xv := .pointer (some ⟨g23, (Int.toNat b_s9_l19) * (eInt .i64).n, none⟩)) (yv := .int .i64 (IntKind.i64.wrap (x23 + x25.2.2.2))) rfl rfl rfl rfl hr29 ?_
        refine ⟨.inl rfl, ?_⟩
        have hst := Stp.ev' (ls := [[b3], [b5], blk (some ⟨g23, 0, none⟩), M]) he29 (mem_flat 2 rfl)
        replace hb3 := he29.box hb3 (hms.apart 0 2 rfl rfl rfl _ (List.mem_singleton.2 rfl))
        replace hs_p0_0 := hs_p0_0.step hst
        replace hb5 := he29.box hb5 (hms.apart 1 2 rfl rfl rfl _ (List.mem_singleton.2 rfl))
        replace hs_p1_1 := hs_p1_1.step hst
        replace hc25 := hc25.step hst
        replace hms := hms.ev he29
        replace hev := hev.then he29 (fun b hb => .inr (hfr.at 2 rfl b hb))
        replace ho12 := ho29
        have hsl : (Value.slice (some ⟨g23, 0, none⟩) (d13_l19).length c12) = (Value.slice (some ⟨g23, 0, none⟩) ((d13_l19.set (Int.toNat b_s9_l19) (IntKind.i64.wrap (x23 + x25.2.2.2)))).length c12) := by rw [List.length_set]
        try rw [hsl]
        clear hsl
        refine x_end rfl ?_
        refine k_block ?_
        refine k_then ?_
        refine c_norm [(2, .pointer (some ⟨b3, 0, none⟩)), (3, .pointer (some ⟨b5, 0, none⟩)), (7, .slice (some ⟨g23, 0, none⟩) ((d13_l19.set (Int.toNat b_s9_l19) (IntKind.i64.wrap (x23 + x25.2.2.2)))).length c12), (8, .int .i64 x_s8_l14), (9, .int .i64 b_s9_l19)] ⟨rfl, rfl, rfl, rfl, rfl, trivial⟩ (fun J => ?_)
        refine c_plain ?_
        refine x_pure 3 [(39, .int .i64 b_s9_l19), (40, .int .i64 (IntKind.i64.wrap (b_s9_l19 + 1))), (9, .int .i64 (IntKind.i64.wrap (b_s9_l19 + 1)))] _ _ _ (by kernel_rfl) ?_
        refine x_end rfl ?_
        have hx := some_inj h
        subst hx
        exact k_then ⟨(m19, (d13_l19.set (Int.toNat b_s9_l19) (IntKind.i64.wrap (x23 + x25.2.2.2))), IntKind.i64.wrap (b_s9_l19 + 1), (some ⟨g23, 0, none⟩)), ⟨rfl, rfl, rfl, rfl, rfl, trivial⟩, ⟨hn19, hev, hms, hfr, hs_p0_0, hb3, hs_p1_1, hb5, ho12⟩, Nat.lt_succ_self _⟩
      replace h := ite_f hb h
      refine c_skip ?_
      refine k_block ?_
      refine k_then ?_
      refine c_plain ?_
      refine x_pure 3 [(39, .int .i64 b_s9_l19), (40, .int .i64 (IntKind.i64.wrap (b_s9_l19 + 1))), (9, .int .i64 (IntKind.i64.wrap (b_s9_l19 + 1)))] _ _ _ (by kernel_rfl) ?_
      refine x_end rfl ?_
      have hx := some_inj h
      subst hx
      exact k_then ⟨(m19, d13_l19, IntKind.i64.wrap (b_s9_l19 + 1), a13_l19), ⟨rfl, rfl, rfl, rfl, rfl, trivial⟩, ⟨hn19, hev, hms, hfr, hs_p0_0, hb3, hs_p1_1, hb5, ho12⟩, Nat.lt_succ_self _⟩
    replace h := ite_f hb h
    refine c_exit ?_
    refine k_then_exit ?_
    have hx := some_inj h
    subst hx
    have hy := some_inj hn19
    subst hy
    replace h := h19
    refine k_then_exit ?_
    refine k_block_in ?_
    refine k_then ?_
    refine c_norm [(2, .pointer (some ⟨b3, 0, none⟩)), (3, .pointer (some ⟨b5, 0, none⟩)), (7, .slice a13_l19 (d13_l19).length c12), (8, .int .i64 x_s8_l14)] ⟨rfl, rfl, rfl, rfl, trivial⟩ (fun J => ?_)
    refine c_drawn [] [(0, false), (1, false), (2, false), (3, false), (4, false), (5, false), (6, false), (7, false), (8, false), (9, false), (10, false), (11, false), (12, false), (13, false), (14, false), (15, false), (16, false), (17, false), (18, false), (19, false), (20, true)] _ (by kernel_rfl) rfl ?_
    have hst := Stp.ext (ls := [[b3], [b5], blk a13_l19, M]) (Ev.drew wl19)
    replace hb3 := (Ev.drew wl19).box hb3 nn
    replace hs_p0_0 := hs_p0_0.step hst
    replace hb5 := (Ev.drew wl19).box hb5 nn
    replace hs_p1_1 := hs_p1_1.step hst
    replace ho12 := ho12.step hst (Ev.drew wl19) nn2
    replace hms := hms.ev (Ev.drew wl19)
    replace hev := hev.ext (Ev.drew wl19)
    refine x_pure 1 [(62, .slice a13_l19 (d13_l19).length c12)] _ _ _ (by kernel_rfl) ?_
    refine x_fieldAddr (xv := .pointer (some ⟨b5, 0, none⟩)) (.pointer (some ⟨b5, 0, none⟩)) rfl rfl rfl (reads_field tfld30_0 _ _) ?_
    refine x_load (xv := .pointer (some ⟨b5, 0, none⟩)) (.int .i64 p1_0) rfl rfl rfl (reads_box tcell3 hb5 nn 0 _ rfl) ?_
    refine x_fieldAddr (xv := .pointer (some ⟨b3, 0, none⟩)) (.pointer (some ⟨b3, 0, none⟩)) rfl rfl rfl (reads_field tfld27_0 _ _) ?_
    refine x_load (xv := .pointer (some ⟨b3, 0, none⟩)) (.slice a_p0_0 (p0_0).length c_p0_0) rfl rfl rfl (reads_box tcell25 hb3 nn 0 _ rfl) ?_
    refine x_pure 1 [(67, .int .i64 x_s8_l14)] _ _ _ (by kernel_rfl) ?_
    obtain ⟨x30, hx30, h⟩ := bind_some h
    obtain ⟨ad30, cs30, hr30, hc30, hR⟩ := reads_index (Mo := []) tsl25 hs_p0_0 hx30
    obtain ⟨_, _, rfl, rfl, ⟨_, _, rfl, rfl, ⟨_, _, rfl, rfl, rfl⟩⟩⟩ := hR
    refine x_indexAddr (xv := .slice a_p0_0 (p0_0).length c_p0_0) (yv := .int .i64 x_s8_l14) (.pointer (some ad30)) rfl rfl rfl rfl hr30 ?_
    refine x_fieldAddr (xv := .pointer (some ad30)) (.pointer (some (Addr.add ad30 0))) rfl rfl rfl (reads_field tfld39_0 _ _) ?_
    refine x_load (xv := .pointer (some (Addr.add ad30 0))) (.int .i64 x30.1) rfl rfl rfl (reads_cell tcell3 hc30 (fun _ h => by cases h) 0 _ rfl) ?_
    refine x_pure 1 [(71, .int .i64 (IntKind.i64.wrap (p1_0 + x30.1)))] _ _ _ (by kernel_rfl) ?_
    obtain ⟨x32, hx32, h⟩ := bind_some h
    obtain ⟨g32, cs32, ha, hr32, hc32, hR⟩ := own_index (Mo := []) tsl22 ho12 hx32
    subst ha
    obtain rfl := hR
    refine x_indexAddr (xv := .slice (some ⟨g32, 0, none⟩) (d13_l19).length c12) (yv := .int .i64 (IntKind.i64.wrap (p1_0 + x30.1))) (.pointer (some ⟨g32, (Int.toNat (IntKind.i64.wrap (p1_0 + x30.1))) * (eInt .i64).n, none⟩)) rfl rfl rfl rfl hr32 ?_
    refine x_load (xv := .pointer (some ⟨g32, (Int.toNat (IntKind.i64.wrap (p1_0 + x30.1))) * (eInt .i64).n, none⟩)) (.int .i64 x32) rfl rfl rfl (reads_cell0 tcell3 hc32 (fun _ h => by cases h)) ?_
    refine x_fieldAddr (xv := .pointer (some ⟨b3, 0, none⟩)) (.pointer (some ⟨b3, 0, none⟩)) rfl rfl rfl (reads_field tfld27_0 _ _) ?_
    refine x_load (xv := .pointer (some ⟨b3, 0, none⟩)) (.slice a_p0_0 (p0_0).length c_p0_0) rfl rfl rfl (reads_box tcell25 hb3 nn 0 _ rfl) ?_
    refine x_pure 1 [(76, .int .i64 x_s8_l14)] _ _ _ (by kernel_rfl) ?_
    obtain ⟨x34, hx34, h⟩ := bind_some h
    obtain ⟨ad34, cs34, hr34, hc34, hR⟩ := reads_index (Mo := []) tsl25 hs_p0_0 hx34
    obtain ⟨_, _, rfl, rfl, ⟨_, _, rfl, rfl, ⟨_, _, rfl, rfl, rfl⟩⟩⟩ := hR
    refine x_indexAddr (xv := .slice a_p0_0 (p0_0).length c_p0_0) (yv := .int .i64 x_s8_l14) (.pointer (some ad34)) rfl rfl rfl rfl hr34 ?_
    refine x_fieldAddr (xv := .pointer (some ad34)) (.pointer (some (Addr.add ad34 3))) rfl rfl rfl (reads_field tfld39_3 _ _) ?_
    refine x_load (xv := .pointer (some (Addr.add ad34 3))) (.int .i64 x34.2.2.2) rfl rfl rfl (reads_cell tcell3 hc34 (fun _ h => by cases h) 3 _ rfl) ?_
    refine x_pure 1 [(80, .int .i64 (IntKind.i64.wrap (x32 + x34.2.2.2)))] _ _ _ (by kernel_rfl) ?_
    obtain ⟨x36, hx36, h⟩ := bind_some h
    obtain ⟨g36, cs36, ha, hr36, hc36, hR⟩ := own_index (Mo := []) tsl22 ho12 hx36
    have hg : g32 = g36 := by cases ha; rfl
    subst hg
    obtain rfl := hR
    refine x_indexAddr (xv := .slice (some ⟨g32, 0, none⟩) (d13_l19).length c12) (yv := .int .i64 (IntKind.i64.wrap (p1_0 + x30.1))) (.pointer (some ⟨g32, (Int.toNat (IntKind.i64.wrap (p1_0 + x30.1))) * (eInt .i64).n, none⟩)) rfl rfl rfl rfl hr36 ?_
    obtain ⟨w38, hr38, he38, ho38⟩ := own_store (y := IntKind.i64.wrap (x32 + x34.2.2.2)) 0 (.int .i64 (IntKind.i64.wrap (x32 + x34.2.2.2))) tcell3 ho12 (mem_flat 2 rfl _ (List.mem_singleton.2 rfl)) hx36 rfl rfl (fun _ _ _ _ => by simp_all [eInt, eBool])
    refine x_store w38 (xv := .pointer (some ⟨g32, (Int.toNat (IntKind.i64.wrap (p1_0 + x30.1))) * (eInt .i64).n, none⟩)) (yv := .int .i64 (IntKind.i64.wrap (x32 + x34.2.2.2))) rfl rfl rfl rfl hr38 ?_
    refine ⟨.inl rfl, ?_⟩
    have hst := Stp.ev' (ls := [[b3], [b5], blk (some ⟨g32, 0, none⟩), M]) he38 (mem_flat 2 rfl)
    replace hb3 := he38.box hb3 (hms.apart 0 2 rfl rfl rfl _ (List.mem_singleton.2 rfl))
    replace hs_p0_0 := hs_p0_0.step hst
    replace hb5 := he38.box hb5 (hms.apart 1 2 rfl rfl rfl _ (List.mem_singleton.2 rfl))
    replace hs_p1_1 := hs_p1_1.step hst
    replace hc30 := hc30.step hst
    replace hc34 := hc34.step hst
    replace hms := hms.ev he38
    replace hev := hev.then he38 (fun b hb => .inr (hfr.at 2 rfl b hb))
    replace ho12 := ho38
    have hsl : (Value.slice (some ⟨g32, 0, none⟩) (d13_l19).length c12) = (Value.slice (some ⟨g32, 0, none⟩) ((d13_l19.set (Int.toNat (IntKind.i64.wrap (p1_0 + x30.1))) (IntKind.i64.wrap (x32 + x34.2.2.2)))).length c12) := by rw [List.length_set]
    try rw [hsl]
    clear hsl
    refine x_end rfl ?_
    refine k_block ?_
    refine k_then ?_
    refine c_norm [(2, .pointer (some ⟨b3, 0, none⟩)), (3, .pointer (some ⟨b5, 0, none⟩)), (7, .slice (some ⟨g32, 0, none⟩) ((d13_l19.set (Int.toNat (IntKind.i64.wrap (p1_0 + x30.1))) (IntKind.i64.wrap (x32 + x34.2.2.2)))).length c12), (8, .int .i64 x_s8_l14)] ⟨rfl, rfl, rfl, rfl, trivial⟩ (fun J => ?_)
    refine c_plain ?_
    refine x_pure 3 [(27, .int .i64 x_s8_l14), (28, .int .i64 (IntKind.i64.wrap (x_s8_l14 + 1))), (8, .int .i64 (IntKind.i64.wrap (x_s8_l14 + 1)))] _ _ _ (by kernel_rfl) ?_
    refine x_end rfl ?_
    have hx := some_inj h
    subst hx
    exact k_then ⟨(m14, (d13_l19.set (Int.toNat (IntKind.i64.wrap (p1_0 + x30.1))) (IntKind.i64.wrap (x32 + x34.2.2.2))), IntKind.i64.wrap (x_s8_l14 + 1), (some ⟨g32, 0, none⟩)), ⟨rfl, rfl, rfl, rfl, trivial⟩, ⟨hn14, hev, hms, hfr, hs_p0_0, hb3, hs_p1_1, hb5, ho12⟩, Nat.lt_succ_self _⟩
  replace h := ite_f hb h
  refine c_exit ?_
  refine k_then_exit ?_
  have hx := some_inj h
  subst hx
  have hy := some_inj hn14
  subst hy
  replace h := h14
  refine k_then_exit ?_
  refine k_block_in ?_
  refine k_then ?_
  refine c_norm [(7, .slice a13_l14 (d13_l14).length c12)] ⟨rfl, trivial⟩ (fun J => ?_)
  refine c_seq (c_plain ?_)
  refine x_pure 3 [(82, .slice a13_l14 (d13_l14).length c12), (4, .slice a13_l14 (d13_l14).length c12), (5, .int .i64 0)] _ _ _ (by kernel_rfl) ?_
  refine x_end rfl (k_then ?_)
  refine c_ret ?_
  refine r_ret (r_vals [.slice a13_l14 (d13_l14).length c12, .int .i64 0] ⟨rfl, rfl, trivial⟩ ?_)
  have hx := some_inj h
  subst hx
  have hmr : MS wl14 [blk a13_l14, M] := hms.pick [some 2, some 3] _ rfl
  have hsu : ∀ x ∈ fl [blk a13_l14, M], x ∈ fl [[b3], [b5], blk a13_l14, M] := pick_sub [some 2, some 3] _ rfl
  have hfe : FR w.heap.size [blk a13_l14] := hfr.pick [some 2] _ rfl
  exact ⟨a13_l14, c12, rfl, hev, hmr, hfe, ho12.sub hsu⟩
def r14_Pushes (p0_0 : List (Int × Int × Int × Int)) (p0_1 : Int) (p1_0 : Int) (p1_1 : List Int) : Option (Int × Int) :=
((r14_Valid p0_0 p0_1 p1_0 p1_1).bind fun x8 =>
(if (x8 != 0) = true then
some (0, x8)
else
((r14_At p0_0 p0_1 p1_0 p1_1 p1_0).bind fun x10 =>
some (x10.2.2.2, 0))))

theorem r14_Pushes_w (a_p0_0 : Option Addr) (c_p0_0 : Nat) (p0_0 : List (Int × Int × Int × Int)) (p0_1 : Int) (p1_0 : Int) (a_p1_1 : Option Addr) (c_p1_1 : Nat) (p1_1 : List Int) (r : Int × Int) (w : World) (M : List Nat) (hms : MS w [M]) (hs_p0_0 : SlR (eProd (eInt .i64) (eProd (eInt .i64) (eProd (eInt .i64) (eInt .i64)))) w (fl [M]) a_p0_0 c_p0_0 p0_0) (hs_p1_1 : SlR (eInt .i64) w (fl [M]) a_p1_1 c_p1_1 p1_1) (h : r14_Pushes p0_0 p0_1 p1_0 p1_1 = some r) : CallVC Try.prog 40 [.agg #[.slice a_p0_0 (p0_0).length c_p0_0, .int .i64 p0_1], .agg #[.int .i64 p1_0, .slice a_p1_1 (p1_1).length c_p1_1]] w fun v w' => v = .tuple #[.int .i64 r.1, .int .i64 r.2] ∧ Ev [] w w' := by
  refine calls_vc hmx Try.func40 (by kernel_rfl) rfl (rs := [.tmp 4, .tmp 5]) rfl (by kernel_rfl) (args := [.agg #[.slice a_p0_0 (p0_0).length c_p0_0, .int .i64 p0_1], .agg #[.int .i64 p1_0, .slice a_p1_1 (p1_1).length c_p1_1]]) rfl ?_
  have hev : Ev [] w w := Ev.refl _ _
  have hfr : FR w.heap.size [] := FR.nil _
  refine c_seq (c_plain ?_)
  refine x_box (xv := .agg #[.slice a_p0_0 (p0_0).length c_p0_0, .int .i64 p0_1]) rfl rfl rfl (fun b3 w3 hq3 hb3 he3 _ => ?_)
  replace hb3 : w3.heap[b3]? = some (.cells #[.slice a_p0_0 (p0_0).length c_p0_0, .int .i64 p0_1] 27 (0, 0)) := hb3
  refine ⟨.inl rfl, ?_⟩
  have hst := Stp.box (ls := [M]) he3 hq3
  replace hs_p0_0 := hs_p0_0.step hst
  replace hs_p1_1 := hs_p1_1.step hst
  replace hms := hms.box he3 hq3 hb3
  replace hfr := hfr.box hev.size hq3
  replace hev := hev.ext he3
  refine x_box (xv := .agg #[.int .i64 p1_0, .slice a_p1_1 (p1_1).length c_p1_1]) rfl rfl rfl (fun b5 w5 hq5 hb5 he5 _ => ?_)
  replace hb5 : w5.heap[b5]? = some (.cells #[.int .i64 p1_0, .slice a_p1_1 (p1_1).length c_p1_1] 30 (0, 0)) := hb5
  refine ⟨.inl rfl, ?_⟩
  have hst := Stp.box (ls := [[b3], M]) he5 hq5
  replace hs_p0_0 := hs_p0_0.step hst
  replace hs_p1_1 := hs_p1_1.step hst
  replace hb3 := he5.box hb3 nn
  replace hms := hms.box he5 hq5 hb5
  replace hfr := hfr.box hev.size hq5
  replace hev := hev.ext he5
  refine x_pure 2 [(4, .int .i64 0), (5, .int .i64 0)] _ _ _ (by kernel_rfl) ?_
  refine x_end rfl (k_then ?_)
  refine c_seq ?_
  refine c_seq (c_plain ?_)
  refine x_load (xv := .pointer (some ⟨b3, 0, none⟩)) (.agg #[.slice a_p0_0 (p0_0).length c_p0_0, .int .i64 p0_1]) rfl rfl rfl (reads_boxagg 0 [.slice a_p0_0 (p0_0).length c_p0_0, .int .i64 p0_1] tagg27 hb3 nn rfl) ?_
  refine x_load (xv := .pointer (some ⟨b5, 0, none⟩)) (.agg #[.int .i64 p1_0, .slice a_p1_1 (p1_1).length c_p1_1]) rfl rfl rfl (reads_boxagg 0 [.int .i64 p1_0, .slice a_p1_1 (p1_1).length c_p1_1] tagg30 hb5 nn rfl) ?_
  obtain ⟨x8, hx, h⟩ := bind_some h
  have hpk : MS w5 ([] ++ [[b5], [b3], M]) := hms.pick [some 0, some 1, some 2] _ rfl
  have hsb0 : ∀ x ∈ fl ([] ++ [[b5], [b3], M]), x ∈ fl [[b5], [b3], M] := pick_sub [some 0, some 1, some 2] _ rfl
  have hsb : ∀ x ∈ fl ([] ++ [(fl [[b5], [b3], M])]), x ∈ fl [[b5], [b3], M] := fun x hx => hsb0 x (fl_unfold x hx)
  have hcall := r14_Valid_w a_p0_0 c_p0_0 p0_0 p0_1 p1_0 a_p1_1 c_p1_1 p1_1 _ w5 (fl [[b5], [b3], M]) (MS.fold (P := []) hpk) (hs_p0_0.sub hsb) (hs_p1_1.sub hsb) hx
  refine x_call 37 #[] #[] [.agg #[.slice a_p0_0 (p0_0).length c_p0_0, .int .i64 p0_1], .agg #[.int .i64 p1_0, .slice a_p1_1 (p1_1).length c_p1_1]] _ rfl rfl rfl rfl hcall ?_
  rintro v w9 ⟨rfl, he9⟩
  clear hcall hx
  refine ⟨.inl rfl, ?_⟩
  have hst := Stp.ext (ls := [[b5], [b3], M]) he9
  replace hs_p0_0 := hs_p0_0.step hst
  replace hs_p1_1 := hs_p1_1.step hst
  replace hb3 := he9.box hb3 nn
  replace hb5 := he9.box hb5 nn
  replace hms := hms.ev he9
  replace hev := hev.ext he9
  clear hpk hsb hsb0
  refine x_pure 1 [(6, .int .i64 x8)] _ _ _ (by kernel_rfl) ?_
  refine x_end rfl (k_then ?_)
  refine c_seq (c_plain ?_)
  refine x_pure 2 [(10, .int .i64 x8), (11, .bool (x8 != 0))] _ _ _ (by kernel_rfl) ?_
  refine x_end rfl (k_then ?_)
  refine c_cond (x8 != 0) rfl (fun hb => ?_) (fun hb => ?_)
  · replace h := ite_t hb h
    refine c_seq (c_plain ?_)
    refine x_pure 3 [(12, .int .i64 x8), (4, .int .i64 0), (5, .int .i64 x8)] _ _ _ (by kernel_rfl) ?_
    refine x_end rfl (k_then ?_)
    refine c_norm [(4, .int .i64 0), (5, .int .i64 x8)] ⟨rfl, rfl, trivial⟩ (fun J => ?_)
    refine c_ret ?_
    refine k_then_ret ?_
    refine r_ret (r_vals [.int .i64 0, .int .i64 x8] ⟨rfl, rfl, trivial⟩ ?_)
    have hx := some_inj h
    subst hx
    have hmr : MS w9 [M] := hms.pick [some 2] _ rfl
    have hsu : ∀ x ∈ fl [M], x ∈ fl [[b5], [b3], M] := pick_sub [some 2] _ rfl
    exact ⟨rfl, hev⟩
  replace h := ite_f hb h
  refine c_skip ?_
  refine k_then ?_
  refine c_seq (c_plain ?_)
  refine x_load (xv := .pointer (some ⟨b3, 0, none⟩)) (.agg #[.slice a_p0_0 (p0_0).length c_p0_0, .int .i64 p0_1]) rfl rfl rfl (reads_boxagg 0 [.slice a_p0_0 (p0_0).length c_p0_0, .int .i64 p0_1] tagg27 hb3 nn rfl) ?_
  refine x_load (xv := .pointer (some ⟨b5, 0, none⟩)) (.agg #[.int .i64 p1_0, .slice a_p1_1 (p1_1).length c_p1_1]) rfl rfl rfl (reads_boxagg 0 [.int .i64 p1_0, .slice a_p1_1 (p1_1).length c_p1_1] tagg30 hb5 nn rfl) ?_
  refine x_fieldAddr (xv := .pointer (some ⟨b5, 0, none⟩)) (.pointer (some ⟨b5, 0, none⟩)) rfl rfl rfl (reads_field tfld30_0 _ _) ?_
  refine x_load (xv := .pointer (some ⟨b5, 0, none⟩)) (.int .i64 p1_0) rfl rfl rfl (reads_box tcell3 hb5 nn 0 _ rfl) ?_
  obtain ⟨x10, hx, h⟩ := bind_some h
  have hpk : MS w9 ([] ++ [[b5], [b3], M]) := hms.pick [some 0, some 1, some 2] _ rfl
  have hsb0 : ∀ x ∈ fl ([] ++ [[b5], [b3], M]), x ∈ fl [[b5], [b3], M] := pick_sub [some 0, some 1, some 2] _ rfl
  have hsb : ∀ x ∈ fl ([] ++ [(fl [[b5], [b3], M])]), x ∈ fl [[b5], [b3], M] := fun x hx => hsb0 x (fl_unfold x hx)
  have hcall := r14_At_w a_p0_0 c_p0_0 p0_0 p0_1 p1_0 a_p1_1 c_p1_1 p1_1 p1_0 _ w9 (fl [[b5], [b3], M]) (MS.fold (P := []) hpk) (hs_p0_0.sub hsb) (hs_p1_1.sub hsb) hx
  refine x_call 50 #[] #[] [.agg #[.slice a_p0_0 (p0_0).length c_p0_0, .int .i64 p0_1], .agg #[.int .i64 p1_0, .slice a_p1_1 (p1_1).length c_p1_1], .int .i64 p1_0] _ rfl rfl rfl rfl hcall ?_
  rintro v w11 ⟨a0_11, c0_11, B2_11, a3_11, c3_11, B5_11, rfl, he11, hmn11, hfn11, hf11_1, hf11_2⟩
  clear hcall hx
  refine ⟨.inl rfl, ?_⟩
  have hpk2 : MS w9 ([] ++ [[b5], [b3], M]) := hms.pick [some 0, some 1, some 2] _ rfl
  have hsb2 : ∀ x ∈ fl ([] ++ [[b5], [b3], M]), x ∈ fl [[b5], [b3], M] := pick_sub [some 0, some 1, some 2] _ rfl
  have hst0 := Stp.call (LS := [[b5], [b3], M]) (res := [B2_11, B5_11]) (par := []) (R := [[b5], [b3], M]) he11 (fun b hb => hsb2 b (fl_left' (P := []) b hb)) hfn11 (NP.init _ _) (fun x hx => hsb2 x (fl_right' (P := []) x hx))
  have hsn : ∀ x ∈ fl [B2_11, B5_11, [b5], [b3], M], x ∈ fl ([B2_11, B5_11] ++ ([] ++ [[b5], [b3], M])) := pick_sub [some 0, some 1, some 2, some 3, some 4] _ rfl
  have hst := hst0.res hsn
  replace hs_p0_0 := hs_p0_0.step hst
  replace hs_p1_1 := hs_p1_1.step hst
  replace hb3 := he11.box hb3 ((MS.outs (P := []) hpk2 1 rfl) _ (List.mem_singleton.2 rfl))
  replace hb5 := he11.box hb5 ((MS.outs (P := []) hpk2 0 rfl) _ (List.mem_singleton.2 rfl))
  replace hms : MS w11 [B2_11, B5_11, [b5], [b3], M] := (MS.call (P := []) (R := [[b5], [b3], M]) (res := [B2_11, B5_11]) (par := []) hpk2 he11 hmn11 hfn11 (NP.init _ _)).pick [some 0, some 1, some 2, some 3, some 4] _ rfl
  have hfr2 : FR w.heap.size [B2_11, B5_11, [b5], [b3]] := (FR.cons (fun b hb => Nat.le_trans hev.size (hfn11.at 0 rfl b hb)) (FR.cons (fun b hb => Nat.le_trans hev.size (hfn11.at 1 rfl b hb)) (FR.cons (hfr.at 0 rfl) (FR.cons (hfr.at 1 rfl) (FR.nil _)))))
  replace hev := hev.ext he11
  replace hfr := hfr2
  clear hfr2
  clear hpk hsb hsb0 hpk2 hsb2 hst0 hsn hst
  have hpk : MS w11 [B5_11, [b5], [b3], M] := hms.pick [some 1, some 2, some 3, some 4] _ rfl
  have hsu : ∀ x ∈ fl [B5_11, [b5], [b3], M], x ∈ fl [B2_11, B5_11, [b5], [b3], M] := pick_sub [some 1, some 2, some 3, some 4] _ rfl
  replace hs_p0_0 := hs_p0_0.sub hsu
  replace hs_p1_1 := hs_p1_1.sub hsu
  replace hf11_1 := hf11_1.ro (plain_int _) (pick_out hms 0 rfl [some 1, some 2, some 3, some 4] [B5_11, [b5], [b3], M] rfl rfl)
  replace hms := hpk
  replace hfr : FR w.heap.size [B5_11, [b5], [b3]] := hfr.pick [some 1, some 2, some 3] _ rfl
  clear hpk hsu
  have hpk : MS w11 [[b5], [b3], M] := hms.pick [some 1, some 2, some 3] _ rfl
  have hsu : ∀ x ∈ fl [[b5], [b3], M], x ∈ fl [B5_11, [b5], [b3], M] := pick_sub [some 1, some 2, some 3] _ rfl
  replace hs_p0_0 := hs_p0_0.sub hsu
  replace hs_p1_1 := hs_p1_1.sub hsu
  replace hf11_1 := hf11_1.sub hsu
  replace hf11_2 := hf11_2.ro (plain_int _) (pick_out hms 0 rfl [some 1, some 2, some 3] [[b5], [b3], M] rfl rfl)
  replace hms := hpk
  replace hfr : FR w.heap.size [[b5], [b3]] := hfr.pick [some 1, some 2] _ rfl
  clear hpk hsu
  refine x_field (xv := .agg #[.slice a0_11 (x10.1).length c0_11, .slice a3_11 (x10.2.1).length c3_11, .int .i64 x10.2.2.1, .int .i64 x10.2.2.2]) (.int .i64 x10.2.2.2) rfl rfl rfl (fun _ _ => by kernel_rfl) ?_
  refine x_pure 2 [(4, .int .i64 x10.2.2.2), (5, .int .i64 0)] _ _ _ (by kernel_rfl) ?_
  refine x_end rfl (k_then ?_)
  refine c_norm [(4, .int .i64 x10.2.2.2), (5, .int .i64 0)] ⟨rfl, rfl, trivial⟩ (fun J => ?_)
  refine c_ret ?_
  refine r_ret (r_vals [.int .i64 x10.2.2.2, .int .i64 0] ⟨rfl, rfl, trivial⟩ ?_)
  have hx := some_inj h
  subst hx
  have hmr : MS w11 [M] := hms.pick [some 2] _ rfl
  have hsu : ∀ x ∈ fl [M], x ∈ fl [[b5], [b3], M] := pick_sub [some 2] _ rfl
  exact ⟨rfl, hev⟩
end Go.Proofs.Ytmjobkpgnhbcbaa
