
/- Walks, printed by program: each function returns what the partial function of the same name returns. Conditions: those of each theorem. -/
import Derived.Test.YtcignnfdpgeogaaGT
import Derived.Test.YtcignnfdpgeogaaGcode
import Derived.Test.YtcignnfdpgeogaaGjob
set_option linter.unusedVariables false
set_option linter.unusedSimpArgs false
set_option maxRecDepth 4000
namespace Go.Proofs.Ytcignnfdpgeogaa
open Go Go.V Go.Proofs
def rollin_Valid_L11 (p0_0 : List (Int × Int × Int × Int)) (p0_1 : Int) (p1_0 : Int) (p1_1 : List Int) (s : Int) : Option (Step Int (Unit ⊕ Unit)) :=
match s with
| t33__s33_l11 =>
(if (decide (t33__s33_l11 < ((p1_1).length : Int))) = true then
((idx p1_1 t33__s33_l11).bind fun x13 =>
((idx p0_0 t33__s33_l11).bind fun x15 =>
((code_Is x13 x15.2.2.1 p0_1).bind fun x17 =>
(if (!x17) = true then
some (.done (.inl ()))
else
(if 0 ≤ p1_0 then
(if ((Int.fdiv x13 (2 ^ (min (Int.toNat (p1_0)) IntKind.i64.bits))) != 0) = true then
some (.done (.inl ()))
else
some (.next (IntKind.i64.wrap (t33__s33_l11 + 1))))
else none)))))
else
some (.done (.inr ())))

def rollin_Valid (p0_0 : List (Int × Int × Int × Int)) (p0_1 : Int) (p1_0 : Int) (p1_1 : List Int) : Option Int :=
((job_Valid p0_0 p0_1).bind fun x8 =>
(if (x8 != 0) = true then
some x8
else
(if (decide (p1_0 < 0)) = true then
some 1
else
(if (decide (p1_0 > 12)) = true then
some 1
else
(if (((p1_1).length : Int) != ((p0_0).length : Int)) = true then
some 1
else
((loop (rollin_Valid_L11 p0_0 p0_1 p1_0 p1_1) 0).bind fun d => match d with
| (.inl _) => some 1
| (.inr _) => some 0))))))

theorem rollin_Valid_w (a_p0_0 : Option Addr) (c_p0_0 : Nat) (p0_0 : List (Int × Int × Int × Int)) (p0_1 : Int) (p1_0 : Int) (a_p1_1 : Option Addr) (c_p1_1 : Nat) (p1_1 : List Int) (r : Int) (w : World) (M : List Nat) (hms : MS w [M]) (hs_p0_0 : SlR (eIt4) w (fl [M]) a_p0_0 c_p0_0 p0_0) (hs_p1_1 : SlR (eInt .i64) w (fl [M]) a_p1_1 c_p1_1 p1_1) (h : rollin_Valid p0_0 p0_1 p1_0 p1_1 = some r) : CallVC Try.prog 38 [.agg #[Vl a_p0_0 p0_0 c_p0_0, Vi p0_1], .agg #[Vi p1_0, Vl a_p1_1 p1_1 c_p1_1]] w fun v w' => v = Vi r ∧ Ev [] w w' := by
 refine calls_vc hmx Try.func38 (by kernel_rfl) rfl (rs := [.tmp 4]) rfl (by kernel_rfl) (args := [.agg #[Vl a_p0_0 p0_0 c_p0_0, Vi p0_1], .agg #[Vi p1_0, Vl a_p1_1 p1_1 c_p1_1]]) rfl ?_
 have hev : Ev [] w w := Ev.refl _ _
 have hfr : FR w.heap.size [] := FR.nil _
 refine c_sp ?_
 refine x_box (xv := .agg #[Vl a_p0_0 p0_0 c_p0_0, Vi p0_1]) rfl rfl rfl (fun b3 w3 hq3 hb3 he3 hz3 => ?_)
 replace hb3 : w3.heap[b3]? = some (.cells #[Vl a_p0_0 p0_0 c_p0_0, Vi p0_1] 25 (0, 0)) := hb3
 refine inl1 ?_
 have hst := Stp.box (ls := [M]) he3 hq3
 replace hs_p0_0 := hs_p0_0.step hst
 replace hs_p1_1 := hs_p1_1.step hst
 replace hms := hms.box he3 hq3 hb3
 replace hfr := hfr.box hev.size hq3
 replace hev := hev.ext he3
 refine x_box (xv := .agg #[Vi p1_0, Vl a_p1_1 p1_1 c_p1_1]) rfl rfl rfl (fun b5 w5 hq5 hb5 he5 hz5 => ?_)
 replace hb5 : w5.heap[b5]? = some (.cells #[Vi p1_0, Vl a_p1_1 p1_1 c_p1_1] 27 (0, 0)) := hb5
 refine inl1 ?_
 have hst := Stp.box (ls := [[b3], M]) he5 hq5
 replace hs_p0_0 := hs_p0_0.step hst
 replace hs_p1_1 := hs_p1_1.step hst
 replace hb3 := he5.box hb3 nn
 replace hms := hms.box he5 hq5 hb5
 replace hfr := hfr.box hev.size hq5
 replace hev := hev.ext he5
 refine x_u 1 [(4, Vi 0)] ?_
 refine x_ek ?_
 refine c_seq ?_
 refine c_sp ?_
 refine x_load (xv := Vp b3 0) (.agg #[Vl a_p0_0 p0_0 c_p0_0, Vi p0_1]) rfl rfl rfl (reads_boxagg 0 [Vl a_p0_0 p0_0 c_p0_0, Vi p0_1] tagg25 hb3 nn rfl) ?_
 obtain ⟨x8, hx, h⟩ := bind_some h
 have hpk : MS w5 ([] ++ [[b5], [b3], M]) := hms.pick [some 0, some 1, some 2] _ rfl
 have hsb0 : ∀ x ∈ fl ([] ++ [[b5], [b3], M]), x ∈ fl [[b5], [b3], M] := pick_sub [some 0, some 1, some 2] _ rfl
 have hsb : ∀ x ∈ fl ([] ++ [(fl [[b5], [b3], M])]), x ∈ fl [[b5], [b3], M] := fun x hx => hsb0 x (fl_unfold x hx)
 have hcall := job_Valid_w a_p0_0 c_p0_0 p0_0 p0_1 _ w5 (fl [[b5], [b3], M]) (MS.fold (P := []) hpk) (hs_p0_0.sub hsb) hx
 refine x_call 50 #[] #[] [.agg #[Vl a_p0_0 p0_0 c_p0_0, Vi p0_1]] _ rfl rfl rfl rfl hcall ?_
 rintro v w9 ⟨rfl, he9⟩
 clear hcall hx
 refine inl1 ?_
 have hst := Stp.ext (ls := [[b5], [b3], M]) he9
 replace hs_p0_0 := hs_p0_0.step hst
 replace hs_p1_1 := hs_p1_1.step hst
 replace hb3 := he9.box hb3 nn
 replace hb5 := he9.box hb5 nn
 replace hms := hms.ev he9
 replace hev := hev.ext he9
 clear hpk hsb hsb0
 refine x_u 1 [(5, Vi x8)] ?_
 refine x_ek ?_
 refine c_sp ?_
 refine x_u 2 [(10, Vi x8), (11, .bool (x8 != 0))] ?_
 refine x_ek ?_
 refine c_if (x8 != 0) rfl h (fun h => ?_) (fun h => ?_)
 · refine c_sp ?_
   refine x_u 2 [(12, Vi x8), (4, Vi x8)] ?_
   refine x_ek ?_
   refine c_ret ?_
   refine k_then_ret ?_
   refine r_ret (r_vals [Vi x8] ⟨rfl, trivial⟩ ?_)
   have hx := some_inj h
   subst hx
   have hmr : MS w9 [M] := hms.pick [some 2] _ rfl
   have hsu : ∀ x ∈ fl [M], x ∈ fl [[b5], [b3], M] := pick_sub [some 2] _ rfl
   exact ⟨rfl, hev⟩
 refine c_skip ?_
 refine k_then ?_
 refine c_seq ?_
 refine c_sp ?_
 refine x_fieldAddr (xv := Vp b5 0) (Vp b5 0) rfl rfl rfl (reads_field tfld27_0 _ _) ?_
 refine x_load (xv := Vp b5 0) (Vi p1_0) rfl rfl rfl (reads_box tcell3 hb5 nn 0 _ rfl) ?_
 refine x_u 2 [(15, .bool (decide (p1_0 < 0))), (16, .bool (decide (p1_0 < 0)))] ?_
 refine x_if 16 (decide (p1_0 < 0)) rfl h (fun h => ?_) (fun h => ?_)
 · refine x_u 13 [(17, undef), (18, undef), (19, undef), (20, .bool true), (21, .bool true), (22, undef), (23, undef), (24, undef), (25, undef), (26, undef), (27, undef), (28, undef), (29, .bool true)] ?_
   refine x_ek ?_
   refine c_norm [(2, Vp b3 0), (3, Vp b5 0), (29, .bool true)] ⟨rfl, rfl, rfl, trivial⟩ (fun J => ?_)
   refine c_true rfl ?_
   refine c_sp ?_
   refine x_u 1 [(4, Vi 1)] ?_
   refine x_ek ?_
   refine c_ret ?_
   refine k_then_ret ?_
   refine r_ret (r_vals [Vi 1] ⟨rfl, trivial⟩ ?_)
   have hx := some_inj h
   subst hx
   have hmr : MS w9 [M] := hms.pick [some 2] _ rfl
   have hsu : ∀ x ∈ fl [M], x ∈ fl [[b5], [b3], M] := pick_sub [some 2] _ rfl
   exact ⟨rfl, hev⟩
 refine x_fieldAddr (xv := Vp b5 0) (Vp b5 0) rfl rfl rfl (reads_field tfld27_0 _ _) ?_
 refine x_load (xv := Vp b5 0) (Vi p1_0) rfl rfl rfl (reads_box tcell3 hb5 nn 0 _ rfl) ?_
 refine x_u 3 [(19, .bool (decide (p1_0 > 12))), (20, .bool (decide (p1_0 > 12))), (21, .bool (decide (p1_0 > 12)))] ?_
 refine x_if 21 (decide (p1_0 > 12)) rfl h (fun h => ?_) (fun h => ?_)
 · refine x_u 8 [(22, undef), (23, undef), (24, undef), (25, undef), (26, undef), (27, undef), (28, undef), (29, .bool true)] ?_
   refine x_ek ?_
   refine c_norm [(2, Vp b3 0), (3, Vp b5 0), (29, .bool true)] ⟨rfl, rfl, rfl, trivial⟩ (fun J => ?_)
   refine c_true rfl ?_
   refine c_sp ?_
   refine x_u 1 [(4, Vi 1)] ?_
   refine x_ek ?_
   refine c_ret ?_
   refine k_then_ret ?_
   refine r_ret (r_vals [Vi 1] ⟨rfl, trivial⟩ ?_)
   have hx := some_inj h
   subst hx
   have hmr : MS w9 [M] := hms.pick [some 2] _ rfl
   have hsu : ∀ x ∈ fl [M], x ∈ fl [[b5], [b3], M] := pick_sub [some 2] _ rfl
   exact ⟨rfl, hev⟩
 refine x_fieldAddr (xv := Vp b5 0) (Vp b5 1) rfl rfl rfl (reads_field tfld27_1 _ _) ?_
 refine x_load (xv := Vp b5 1) (Vl a_p1_1 p1_1 c_p1_1) rfl rfl rfl (reads_box tcell22 hb5 nn 1 _ rfl) ?_
 refine x_len (vs := [Vl a_p1_1 p1_1 c_p1_1]) (Vi ((p1_1).length : Int)) rfl rfl rfl (reads_len tsl22 _ _ _ _ _) ?_
 refine x_fieldAddr (xv := Vp b3 0) (Vp b3 0) rfl rfl rfl (reads_field tfld25_0 _ _) ?_
 refine x_load (xv := Vp b3 0) (Vl a_p0_0 p0_0 c_p0_0) rfl rfl rfl (reads_box tcell23 hb3 nn 0 _ rfl) ?_
 refine x_len (vs := [Vl a_p0_0 p0_0 c_p0_0]) (Vi ((p0_0).length : Int)) rfl rfl rfl (reads_len tsl23 _ _ _ _ _) ?_
 refine x_u 2 [(28, .bool (((p1_1).length : Int) != ((p0_0).length : Int))), (29, .bool (((p1_1).length : Int) != ((p0_0).length : Int)))] ?_
 refine x_ek ?_
 refine c_norm [(2, Vp b3 0), (3, Vp b5 0), (29, .bool (((p1_1).length : Int) != ((p0_0).length : Int)))] ⟨rfl, rfl, rfl, trivial⟩ (fun J => ?_)
 refine c_if (((p1_1).length : Int) != ((p0_0).length : Int)) rfl h (fun h => ?_) (fun h => ?_)
 · refine c_sp ?_
   refine x_u 1 [(4, Vi 1)] ?_
   refine x_ek ?_
   refine c_ret ?_
   refine k_then_ret ?_
   refine r_ret (r_vals [Vi 1] ⟨rfl, trivial⟩ ?_)
   have hx := some_inj h
   subst hx
   have hmr : MS w9 [M] := hms.pick [some 2] _ rfl
   have hsu : ∀ x ∈ fl [M], x ∈ fl [[b5], [b3], M] := pick_sub [some 2] _ rfl
   exact ⟨rfl, hev⟩
 refine c_skip ?_
 refine k_then ?_
 refine c_seq ?_
 refine c_sp ?_
 refine x_fieldAddr (xv := Vp b5 0) (Vp b5 1) rfl rfl rfl (reads_field tfld27_1 _ _) ?_
 refine x_load (xv := Vp b5 1) (Vl a_p1_1 p1_1 c_p1_1) rfl rfl rfl (reads_box tcell22 hb5 nn 1 _ rfl) ?_
 refine x_len (vs := [Vl a_p1_1 p1_1 c_p1_1]) (Vi ((p1_1).length : Int)) rfl rfl rfl (reads_len tsl22 _ _ _ _ _) ?_
 refine x_u 1 [(33, Vi 0)] ?_
 refine x_ek ?_
 refine c_block ?_
 have hpk : MS w9 [[b3], [b5], M] := hms.pick [some 1, some 0, some 2] _ rfl
 have hsu : ∀ x ∈ fl [[b3], [b5], M], x ∈ fl [[b5], [b3], M] := pick_sub [some 1, some 0, some 2] _ rfl
 replace hs_p0_0 := hs_p0_0.sub hsu
 replace hs_p1_1 := hs_p1_1.sub hsu
 replace hms := hpk
 replace hfr : FR w.heap.size [[b3], [b5]] := hfr.pick [some 1, some 0] _ rfl
 clear hpk hsu
 obtain ⟨d11, hd11, h11⟩ := bind_some h
 obtain ⟨m11, hd11⟩ := loop_some hd11
 refine c_loop (loop_rule hmx (σ := Nat × Int) (fun s => match s with | (_, t33__s33_l11) => [(2, Vp b3 0), (3, Vp b5 0), (31, Vl a_p1_1 p1_1 c_p1_1), (32, Vi ((p1_1).length : Int)), (33, Vi t33__s33_l11)]) (fun s w' => match s with | (m, t33__s33_l11) => loopN (rollin_Valid_L11 p0_0 p0_1 p1_0 p1_1) m t33__s33_l11 = some d11 ∧ Ev [] w w' ∧ MS w' [[b3], [b5], M] ∧ FR w.heap.size [[b3], [b5]] ∧ SlR (eIt4) w' (fl [[b3], [b5], M]) a_p0_0 c_p0_0 p0_0 ∧ w'.heap[b3]? = some (.cells #[Vl a_p0_0 p0_0 c_p0_0, Vi p0_1] 25 (0, 0)) ∧ SlR (eInt .i64) w' (fl [[b3], [b5], M]) a_p1_1 c_p1_1 p1_1 ∧ w'.heap[b5]? = some (.cells #[Vi p1_0, Vl a_p1_1 p1_1 c_p1_1] 27 (0, 0))) (fun s => s.1) (m11, 0) ⟨rfl, rfl, rfl, rfl, rfl, trivial⟩ ⟨hd11, hev, hms, hfr, hs_p0_0, hb3, hs_p1_1, hb5⟩ ?_)
 rintro ⟨m11, t33__s33_l11⟩ J wl11 ⟨hn11, hev, hms, hfr, hs_p0_0, hb3, hs_p1_1, hb5⟩
 rcases m11 with _ | m11
 · exact (loopN_zero hn11).elim
 obtain ⟨t11, h, hn11⟩ := bind_some hn11
 refine c_sp ?_
 refine x_u 1 [(34, .bool (decide (t33__s33_l11 < ((p1_1).length : Int))))] ?_
 refine x_ek ?_
 refine c_norm [(2, Vp b3 0), (3, Vp b5 0), (31, Vl a_p1_1 p1_1 c_p1_1), (32, Vi ((p1_1).length : Int)), (33, Vi t33__s33_l11), (34, .bool (decide (t33__s33_l11 < ((p1_1).length : Int))))] ⟨rfl, rfl, rfl, rfl, rfl, rfl, trivial⟩ (fun J => ?_)
 refine c_seq ?_
 refine c_if (decide (t33__s33_l11 < ((p1_1).length : Int))) rfl h (fun h => ?_) (fun h => ?_)
 · refine c_skip ?_
   refine k_then ?_
   refine c_seq ?_
   refine c_block ?_
   refine c_sp ?_
   refine x_u 1 [(35, Vi t33__s33_l11)] ?_
   obtain ⟨x13, hx13, h⟩ := bind_some h
   obtain ⟨ad13, cs13, hr13, hc13, hR⟩ := reads_index (Mo := []) tsl22 hs_p1_1 hx13
   obtain rfl := hR
   refine x_indexAddr (xv := Vl a_p1_1 p1_1 c_p1_1) (yv := Vi t33__s33_l11) (.pointer (some ad13)) rfl rfl rfl rfl hr13 ?_
   refine x_load (xv := .pointer (some ad13)) (Vi x13) rfl rfl rfl (reads_cell0 tcell3 hc13 (fun _ h => by cases h)) ?_
   refine x_u 2 [(6, Vi t33__s33_l11), (7, Vi x13)] ?_
   refine x_ek ?_
   refine c_seq ?_
   refine c_drawn [] [(0, false), (1, false), (2, false), (3, false), (4, false), (5, false), (6, false), (7, false), (8, false), (9, true), (10, false), (11, false), (12, false), (13, false), (14, false), (15, false), (16, false), (17, false)] _ (by kernel_rfl) rfl ?_
   have hst := Stp.ext (ls := [[b3], [b5], M]) (Ev.drew wl11)
   replace hb3 := (Ev.drew wl11).box hb3 nn
   replace hs_p0_0 := hs_p0_0.step hst
   replace hb5 := (Ev.drew wl11).box hb5 nn
   replace hs_p1_1 := hs_p1_1.step hst
   replace hms := hms.ev (Ev.drew wl11)
   replace hev := hev.ext (Ev.drew wl11)
   refine x_u 1 [(38, Vi x13)] ?_
   refine x_fieldAddr (xv := Vp b3 0) (Vp b3 0) rfl rfl rfl (reads_field tfld25_0 _ _) ?_
   refine x_load (xv := Vp b3 0) (Vl a_p0_0 p0_0 c_p0_0) rfl rfl rfl (reads_box tcell23 hb3 nn 0 _ rfl) ?_
   refine x_u 1 [(41, Vi t33__s33_l11)] ?_
   obtain ⟨x15, hx15, h⟩ := bind_some h
   obtain ⟨ad15, cs15, hr15, hc15, hR⟩ := reads_index (Mo := []) tsl23 hs_p0_0 hx15
   obtain ⟨_, _, rfl, rfl, ⟨_, _, rfl, rfl, ⟨_, _, rfl, rfl, rfl⟩⟩⟩ := hR
   refine x_indexAddr (xv := Vl a_p0_0 p0_0 c_p0_0) (yv := Vi t33__s33_l11) (.pointer (some ad15)) rfl rfl rfl rfl hr15 ?_
   refine x_fieldAddr (xv := .pointer (some ad15)) (.pointer (some (Addr.add ad15 2))) rfl rfl rfl (reads_field tfld79_2 _ _) ?_
   refine x_load (xv := .pointer (some (Addr.add ad15 2))) (Vi x15.2.2.1) rfl rfl rfl (reads_cell tcell3 hc15 (fun _ h => by cases h) 2 _ rfl) ?_
   refine x_fieldAddr (xv := Vp b3 0) (Vp b3 1) rfl rfl rfl (reads_field tfld25_1 _ _) ?_
   refine x_load (xv := Vp b3 1) (Vi p0_1) rfl rfl rfl (reads_box tcell3 hb3 nn 1 _ rfl) ?_
   obtain ⟨x17, hx, h⟩ := bind_some h
   have hcall := code_Is_w x13 x15.2.2.1 p0_1 _ (wl11).drew hx
   refine x_call 61 #[] #[] [Vi x13, Vi x15.2.2.1, Vi p0_1] _ rfl rfl rfl rfl hcall ?_
   rintro v w18 ⟨rfl, he18⟩
   clear hcall hx
   refine inl1 ?_
   have hst := Stp.ext (ls := [[b3], [b5], M]) he18
   replace hb3 := he18.box hb3 nn
   replace hs_p0_0 := hs_p0_0.step hst
   replace hb5 := he18.box hb5 nn
   replace hs_p1_1 := hs_p1_1.step hst
   replace hc15 := hc15.step hst
   replace hms := hms.ev he18
   replace hev := hev.ext he18
   refine x_u 2 [(48, .bool (!x17)), (49, .bool (!x17))] ?_
   refine x_if 49 (!x17) rfl h (fun h => ?_) (fun h => ?_)
   · refine x_u 6 [(50, undef), (51, undef), (52, undef), (53, undef), (54, undef), (55, .bool true)] ?_
     refine x_ek ?_
     refine c_norm [(2, Vp b3 0), (3, Vp b5 0), (31, Vl a_p1_1 p1_1 c_p1_1), (32, Vi ((p1_1).length : Int)), (33, Vi t33__s33_l11), (55, .bool true)] ⟨rfl, rfl, rfl, rfl, rfl, rfl, trivial⟩ (fun J => ?_)
     refine c_true rfl ?_
     refine c_sp ?_
     refine x_u 1 [(4, Vi 1)] ?_
     refine x_ek ?_
     refine c_ret ?_
     refine k_block_ret ?_
     refine k_then_ret ?_
     have hx := some_inj h
     subst hx
     have hy := some_inj hn11
     subst hy
     replace h := h11
     refine k_then_ret ?_
     refine k_block_ret ?_
     refine k_then_ret ?_
     refine r_ret (r_vals [Vi 1] ⟨rfl, trivial⟩ ?_)
     have hx := some_inj h
     subst hx
     have hmr : MS w18 [M] := hms.pick [some 2] _ rfl
     have hsu : ∀ x ∈ fl [M], x ∈ fl [[b3], [b5], M] := pick_sub [some 2] _ rfl
     exact ⟨rfl, hev⟩
   refine x_u 1 [(50, Vi x13)] ?_
   refine x_fieldAddr (xv := Vp b5 0) (Vp b5 0) rfl rfl rfl (reads_field tfld27_0 _ _) ?_
   refine x_load (xv := Vp b5 0) (Vi p1_0) rfl rfl rfl (reads_box tcell3 hb5 nn 0 _ rfl) ?_
   refine x_binop (Vi (Int.fdiv x13 (2 ^ (min (Int.toNat (p1_0)) IntKind.i64.bits)))) (Vi x13) (Vi p1_0) rfl rfl rfl rfl (vb_shr (guard_l h)) ?_
   replace h := guard_r h
   refine x_u 2 [(54, .bool ((Int.fdiv x13 (2 ^ (min (Int.toNat (p1_0)) IntKind.i64.bits))) != 0)), (55, .bool ((Int.fdiv x13 (2 ^ (min (Int.toNat (p1_0)) IntKind.i64.bits))) != 0))] ?_
   refine x_ek ?_
   refine c_norm [(2, Vp b3 0), (3, Vp b5 0), (31, Vl a_p1_1 p1_1 c_p1_1), (32, Vi ((p1_1).length : Int)), (33, Vi t33__s33_l11), (55, .bool ((Int.fdiv x13 (2 ^ (min (Int.toNat (p1_0)) IntKind.i64.bits))) != 0))] ⟨rfl, rfl, rfl, rfl, rfl, rfl, trivial⟩ (fun J => ?_)
   refine c_if ((Int.fdiv x13 (2 ^ (min (Int.toNat (p1_0)) IntKind.i64.bits))) != 0) rfl h (fun h => ?_) (fun h => ?_)
   · refine c_sp ?_
     refine x_u 1 [(4, Vi 1)] ?_
     refine x_ek ?_
     refine c_ret ?_
     refine k_block_ret ?_
     refine k_then_ret ?_
     have hx := some_inj h
     subst hx
     have hy := some_inj hn11
     subst hy
     replace h := h11
     refine k_then_ret ?_
     refine k_block_ret ?_
     refine k_then_ret ?_
     refine r_ret (r_vals [Vi 1] ⟨rfl, trivial⟩ ?_)
     have hx := some_inj h
     subst hx
     have hmr : MS w18 [M] := hms.pick [some 2] _ rfl
     have hsu : ∀ x ∈ fl [M], x ∈ fl [[b3], [b5], M] := pick_sub [some 2] _ rfl
     exact ⟨rfl, hev⟩
   refine c_skip ?_
   refine k_block ?_
   refine k_then ?_
   refine c_plain ?_
   refine x_u 2 [(56, Vi (IntKind.i64.wrap (t33__s33_l11 + 1))), (33, Vi (IntKind.i64.wrap (t33__s33_l11 + 1)))] ?_
   refine x_end rfl ?_
   have hx := some_inj h
   subst hx
   exact k_then ⟨(m11, IntKind.i64.wrap (t33__s33_l11 + 1)), ⟨rfl, rfl, rfl, rfl, rfl, trivial⟩, ⟨hn11, hev, hms, hfr, hs_p0_0, hb3, hs_p1_1, hb5⟩, Nat.lt_succ_self _⟩
 refine c_exit ?_
 refine k_then_exit ?_
 have hx := some_inj h
 subst hx
 have hy := some_inj hn11
 subst hy
 replace h := h11
 refine k_then_exit ?_
 refine k_block_in ?_
 refine k_then ?_
 refine c_norm [] trivial (fun J => ?_)
 refine c_sp ?_
 refine x_u 1 [(4, Vi 0)] ?_
 refine x_ek ?_
 refine c_ret ?_
 refine r_ret (r_vals [Vi 0] ⟨rfl, trivial⟩ ?_)
 have hx := some_inj h
 subst hx
 have hmr : MS wl11 [M] := hms.pick [some 2] _ rfl
 have hsu : ∀ x ∈ fl [M], x ∈ fl [[b3], [b5], M] := pick_sub [some 2] _ rfl
 exact ⟨rfl, hev⟩
end Go.Proofs.Ytcignnfdpgeogaa
