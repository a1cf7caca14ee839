
/- Walks, printed by program: each function returns what the partial function of the same name returns. Conditions: those of each theorem. -/
import Derived.Test.YtcignnfdpgeogaaGT
import Derived.Test.YtcignnfdpgeogaaGcode
import Derived.Test.YtcignnfdpgeogaaGjob
import Derived.Test.YtcignnfdpgeogaaGleastcode
import Derived.Test.YtcignnfdpgeogaaGrollin
set_option linter.unusedVariables false
set_option linter.unusedSimpArgs false
set_option maxRecDepth 4000
namespace Go.Proofs.Ytcignnfdpgeogaa
open Go Go.V Go.Proofs
def certificate_check_L12 (p0_1 : List Int) (s : Int) : Option (Step Int (Unit ⊕ Unit)) :=
match s with
| t46__s46_l12 =>
(if (decide (t46__s46_l12 < ((p0_1).length : Int))) = true then
((idx p0_1 t46__s46_l12).bind fun x14 =>
(if (decide (x14 < 0)) = true then
some (.done (.inl ()))
else
(if (decide (x14 ≥ 96)) = true then
some (.done (.inl ()))
else
some (.next (IntKind.i64.wrap (t46__s46_l12 + 1))))))
else
some (.done (.inr ())))

def certificate_check_L8 (p0_0_1 : List Int) (s : Int) : Option (Step Int (Unit ⊕ Unit)) :=
match s with
| t32__s32_l8 =>
(if (decide (t32__s32_l8 < ((p0_0_1).length : Int))) = true then
((idx p0_0_1 t32__s32_l8).bind fun x10 =>
(if (decide (x10 < 0)) = true then
some (.done (.inl ()))
else
(if (decide (x10 ≥ 4096)) = true then
some (.done (.inl ()))
else
some (.next (IntKind.i64.wrap (t32__s32_l8 + 1))))))
else
some (.done (.inr ())))

def certificate_check (p0_0_0 : Int) (p0_0_1 : List Int) (p0_1 : List Int) : Option Int :=
(if (decide (((p0_0_1).length : Int) > 96)) = true then
some 3
else
(if (decide (((p0_1).length : Int) > 96)) = true then
some 3
else
(if (decide (p0_0_0 < 0)) = true then
some 2
else
(if (decide (p0_0_0 > 12)) = true then
some 2
else
((loop (certificate_check_L8 p0_0_1) 0).bind fun d => match d with
| (.inl _) => some 2
| (.inr _) => ((loop (certificate_check_L12 p0_1) 0).bind fun d => match d with
| (.inl _) => some 2
| (.inr _) => some 0))))))

theorem certificate_check_w (p0_0_0 : Int) (a_p0_0_1 : Option Addr) (c_p0_0_1 : Nat) (p0_0_1 : List Int) (a_p0_1 : Option Addr) (c_p0_1 : Nat) (p0_1 : List Int) (r : Int) (w : World) (M : List Nat) (hms : MS w [M]) (hs_p0_0_1 : SlR (eInt .i64) w (fl [M]) a_p0_0_1 c_p0_0_1 p0_0_1) (hs_p0_1 : SlR (eInt .i64) w (fl [M]) a_p0_1 c_p0_1 p0_1) (h : certificate_check p0_0_0 p0_0_1 p0_1 = some r) : CallVC Try.prog 46 [.agg #[Vi p0_0_0, Vl a_p0_0_1 p0_0_1 c_p0_0_1, Vl a_p0_1 p0_1 c_p0_1]] w fun v w' => v = Vi r ∧ Ev [] w w' := by
 refine calls_vc hmx Try.func46 (by kernel_rfl) rfl (rs := [.tmp 2]) rfl (by kernel_rfl) (args := [.agg #[Vi p0_0_0, Vl a_p0_0_1 p0_0_1 c_p0_0_1, Vl a_p0_1 p0_1 c_p0_1]]) rfl ?_
 have hev : Ev [] w w := Ev.refl _ _
 have hfr : FR w.heap.size [] := FR.nil _
 refine c_sp ?_
 refine x_box (xv := .agg #[Vi p0_0_0, Vl a_p0_0_1 p0_0_1 c_p0_0_1, Vl a_p0_1 p0_1 c_p0_1]) rfl rfl rfl (fun b3 w3 hq3 hb3 he3 hz3 => ?_)
 replace hb3 : w3.heap[b3]? = some (.cells #[Vi p0_0_0, Vl a_p0_0_1 p0_0_1 c_p0_0_1, Vl a_p0_1 p0_1 c_p0_1] 29 (0, 0)) := hb3
 refine inl1 ?_
 have hst := Stp.box (ls := [M]) he3 hq3
 replace hs_p0_0_1 := hs_p0_0_1.step hst
 replace hs_p0_1 := hs_p0_1.step hst
 replace hms := hms.box he3 hq3 hb3
 replace hfr := hfr.box hev.size hq3
 replace hev := hev.ext he3
 refine x_u 1 [(2, Vi 0)] ?_
 refine x_ek ?_
 refine c_seq ?_
 refine c_sp ?_
 refine x_fieldAddr (xv := Vp b3 0) (Vp b3 0) rfl rfl rfl (reads_field tfld29_0 _ _) ?_
 refine x_fieldAddr (xv := Vp b3 0) (Vp b3 1) rfl rfl rfl (reads_field tfld27_1 _ _) ?_
 refine x_load (xv := Vp b3 1) (Vl a_p0_0_1 p0_0_1 c_p0_0_1) rfl rfl rfl (reads_box tcell22 hb3 nn 1 _ rfl) ?_
 refine x_len (vs := [Vl a_p0_0_1 p0_0_1 c_p0_0_1]) (Vi ((p0_0_1).length : Int)) rfl rfl rfl (reads_len tsl22 _ _ _ _ _) ?_
 refine x_u 2 [(11, .bool (decide (((p0_0_1).length : Int) > 96))), (12, .bool (decide (((p0_0_1).length : Int) > 96)))] ?_
 refine x_if 12 (decide (((p0_0_1).length : Int) > 96)) rfl h (fun h => ?_) (fun h => ?_)
 · refine x_u 5 [(13, undef), (14, undef), (15, undef), (16, undef), (17, .bool true)] ?_
   refine x_ek ?_
   refine c_norm [(1, Vp b3 0), (17, .bool true)] ⟨rfl, rfl, trivial⟩ (fun J => ?_)
   refine c_true rfl ?_
   refine c_sp ?_
   refine x_u 1 [(2, Vi 3)] ?_
   refine x_ek ?_
   refine c_ret ?_
   refine k_then_ret ?_
   refine r_ret (r_vals [Vi 3] ⟨rfl, trivial⟩ ?_)
   have hx := some_inj h
   subst hx
   have hmr : MS w3 [M] := hms.pick [some 1] _ rfl
   have hsu : ∀ x ∈ fl [M], x ∈ fl [[b3], M] := pick_sub [some 1] _ rfl
   exact ⟨rfl, hev⟩
 refine x_fieldAddr (xv := Vp b3 0) (Vp b3 2) rfl rfl rfl (reads_field tfld29_1 _ _) ?_
 refine x_load (xv := Vp b3 2) (Vl a_p0_1 p0_1 c_p0_1) rfl rfl rfl (reads_box tcell22 hb3 nn 2 _ rfl) ?_
 refine x_len (vs := [Vl a_p0_1 p0_1 c_p0_1]) (Vi ((p0_1).length : Int)) rfl rfl rfl (reads_len tsl22 _ _ _ _ _) ?_
 refine x_u 2 [(16, .bool (decide (((p0_1).length : Int) > 96))), (17, .bool (decide (((p0_1).length : Int) > 96)))] ?_
 refine x_ek ?_
 refine c_norm [(1, Vp b3 0), (17, .bool (decide (((p0_1).length : Int) > 96)))] ⟨rfl, rfl, trivial⟩ (fun J => ?_)
 refine c_if (decide (((p0_1).length : Int) > 96)) rfl h (fun h => ?_) (fun h => ?_)
 · refine c_sp ?_
   refine x_u 1 [(2, Vi 3)] ?_
   refine x_ek ?_
   refine c_ret ?_
   refine k_then_ret ?_
   refine r_ret (r_vals [Vi 3] ⟨rfl, trivial⟩ ?_)
   have hx := some_inj h
   subst hx
   have hmr : MS w3 [M] := hms.pick [some 1] _ rfl
   have hsu : ∀ x ∈ fl [M], x ∈ fl [[b3], M] := pick_sub [some 1] _ rfl
   exact ⟨rfl, hev⟩
 refine c_skip ?_
 refine k_then ?_
 refine c_seq ?_
 refine c_sp ?_
 refine x_fieldAddr (xv := Vp b3 0) (Vp b3 0) rfl rfl rfl (reads_field tfld29_0 _ _) ?_
 refine x_fieldAddr (xv := Vp b3 0) (Vp b3 0) rfl rfl rfl (reads_field tfld27_0 _ _) ?_
 refine x_load (xv := Vp b3 0) (Vi p0_0_0) rfl rfl rfl (reads_box tcell3 hb3 nn 0 _ rfl) ?_
 refine x_u 2 [(21, .bool (decide (p0_0_0 < 0))), (22, .bool (decide (p0_0_0 < 0)))] ?_
 refine x_if 22 (decide (p0_0_0 < 0)) rfl h (fun h => ?_) (fun h => ?_)
 · refine x_u 5 [(23, undef), (24, undef), (25, undef), (26, undef), (27, .bool true)] ?_
   refine x_ek ?_
   refine c_true rfl ?_
   refine c_sp ?_
   refine x_u 1 [(2, Vi 2)] ?_
   refine x_ek ?_
   refine c_ret ?_
   refine k_then_ret ?_
   refine r_ret (r_vals [Vi 2] ⟨rfl, trivial⟩ ?_)
   have hx := some_inj h
   subst hx
   have hmr : MS w3 [M] := hms.pick [some 1] _ rfl
   have hsu : ∀ x ∈ fl [M], x ∈ fl [[b3], M] := pick_sub [some 1] _ rfl
   exact ⟨rfl, hev⟩
 refine x_fieldAddr (xv := Vp b3 0) (Vp b3 0) rfl rfl rfl (reads_field tfld29_0 _ _) ?_
 refine x_fieldAddr (xv := Vp b3 0) (Vp b3 0) rfl rfl rfl (reads_field tfld27_0 _ _) ?_
 refine x_load (xv := Vp b3 0) (Vi p0_0_0) rfl rfl rfl (reads_box tcell3 hb3 nn 0 _ rfl) ?_
 refine x_u 2 [(26, .bool (decide (p0_0_0 > 12))), (27, .bool (decide (p0_0_0 > 12)))] ?_
 refine x_ek ?_
 refine c_if (decide (p0_0_0 > 12)) rfl h (fun h => ?_) (fun h => ?_)
 · refine c_sp ?_
   refine x_u 1 [(2, Vi 2)] ?_
   refine x_ek ?_
   refine c_norm [(2, Vi 2)] ⟨rfl, trivial⟩ (fun J => ?_)
   refine c_ret ?_
   refine k_then_ret ?_
   refine r_ret (r_vals [Vi 2] ⟨rfl, trivial⟩ ?_)
   have hx := some_inj h
   subst hx
   have hmr : MS w3 [M] := hms.pick [some 1] _ rfl
   have hsu : ∀ x ∈ fl [M], x ∈ fl [[b3], M] := pick_sub [some 1] _ rfl
   exact ⟨rfl, hev⟩
 refine c_skip ?_
 refine k_then ?_
 refine c_seq ?_
 refine c_sp ?_
 refine x_fieldAddr (xv := Vp b3 0) (Vp b3 0) rfl rfl rfl (reads_field tfld29_0 _ _) ?_
 refine x_fieldAddr (xv := Vp b3 0) (Vp b3 1) rfl rfl rfl (reads_field tfld27_1 _ _) ?_
 refine x_load (xv := Vp b3 1) (Vl a_p0_0_1 p0_0_1 c_p0_0_1) rfl rfl rfl (reads_box tcell22 hb3 nn 1 _ rfl) ?_
 refine x_len (vs := [Vl a_p0_0_1 p0_0_1 c_p0_0_1]) (Vi ((p0_0_1).length : Int)) rfl rfl rfl (reads_len tsl22 _ _ _ _ _) ?_
 refine x_u 1 [(32, Vi 0)] ?_
 refine x_ek ?_
 refine c_norm [(1, Vp b3 0), (30, Vl a_p0_0_1 p0_0_1 c_p0_0_1), (31, Vi ((p0_0_1).length : Int)), (32, Vi 0)] ⟨rfl, rfl, rfl, rfl, trivial⟩ (fun J => ?_)
 refine c_block ?_
 obtain ⟨d8, hd8, h8⟩ := bind_some h
 obtain ⟨m8, hd8⟩ := loop_some hd8
 refine c_loop (loop_rule hmx (σ := Nat × Int) (fun s => match s with | (_, t32__s32_l8) => [(1, Vp b3 0), (30, Vl a_p0_0_1 p0_0_1 c_p0_0_1), (31, Vi ((p0_0_1).length : Int)), (32, Vi t32__s32_l8)]) (fun s w' => match s with | (m, t32__s32_l8) => loopN (certificate_check_L8 p0_0_1) m t32__s32_l8 = some d8 ∧ Ev [] w w' ∧ MS w' [[b3], M] ∧ FR w.heap.size [[b3]] ∧ SlR (eInt .i64) w' (fl [[b3], M]) a_p0_0_1 c_p0_0_1 p0_0_1 ∧ SlR (eInt .i64) w' (fl [[b3], M]) a_p0_1 c_p0_1 p0_1 ∧ w'.heap[b3]? = some (.cells #[Vi p0_0_0, Vl a_p0_0_1 p0_0_1 c_p0_0_1, Vl a_p0_1 p0_1 c_p0_1] 29 (0, 0))) (fun s => s.1) (m8, 0) ⟨rfl, rfl, rfl, rfl, trivial⟩ ⟨hd8, hev, hms, hfr, hs_p0_0_1, hs_p0_1, hb3⟩ ?_)
 rintro ⟨m8, t32__s32_l8⟩ J wl8 ⟨hn8, hev, hms, hfr, hs_p0_0_1, hs_p0_1, hb3⟩
 rcases m8 with _ | m8
 · exact (loopN_zero hn8).elim
 obtain ⟨t8, h, hn8⟩ := bind_some hn8
 refine c_sp ?_
 refine x_u 1 [(33, .bool (decide (t32__s32_l8 < ((p0_0_1).length : Int))))] ?_
 refine x_ek ?_
 refine c_norm [(1, Vp b3 0), (30, Vl a_p0_0_1 p0_0_1 c_p0_0_1), (31, Vi ((p0_0_1).length : Int)), (32, Vi t32__s32_l8), (33, .bool (decide (t32__s32_l8 < ((p0_0_1).length : Int))))] ⟨rfl, rfl, rfl, rfl, rfl, trivial⟩ (fun J => ?_)
 refine c_seq ?_
 refine c_if (decide (t32__s32_l8 < ((p0_0_1).length : Int))) rfl h (fun h => ?_) (fun h => ?_)
 · refine c_skip ?_
   refine k_then ?_
   refine c_seq ?_
   refine c_block ?_
   refine c_sp ?_
   obtain ⟨x10, hx10, h⟩ := bind_some h
   obtain ⟨ad10, cs10, hr10, hc10, hR⟩ := reads_index (Mo := []) tsl22 hs_p0_0_1 hx10
   obtain rfl := hR
   refine x_indexAddr (xv := Vl a_p0_0_1 p0_0_1 c_p0_0_1) (yv := Vi t32__s32_l8) (.pointer (some ad10)) rfl rfl rfl rfl hr10 ?_
   refine x_load (xv := .pointer (some ad10)) (Vi x10) rfl rfl rfl (reads_cell0 tcell3 hc10 (fun _ h => by cases h)) ?_
   refine x_u 1 [(4, Vi x10)] ?_
   refine x_ek ?_
   refine c_sp ?_
   refine x_u 3 [(36, Vi x10), (37, .bool (decide (x10 < 0))), (38, .bool (decide (x10 < 0)))] ?_
   refine x_if 38 (decide (x10 < 0)) rfl h (fun h => ?_) (fun h => ?_)
   · refine x_u 3 [(39, undef), (40, undef), (41, .bool true)] ?_
     refine x_ek ?_
     refine c_true rfl ?_
     refine c_sp ?_
     refine x_u 1 [(2, Vi 2)] ?_
     refine x_ek ?_
     refine c_ret ?_
     refine k_block_ret ?_
     refine k_then_ret ?_
     have hx := some_inj h
     subst hx
     have hy := some_inj hn8
     subst hy
     replace h := h8
     refine k_then_ret ?_
     refine k_block_ret ?_
     refine k_then_ret ?_
     refine r_ret (r_vals [Vi 2] ⟨rfl, trivial⟩ ?_)
     have hx := some_inj h
     subst hx
     have hmr : MS wl8 [M] := hms.pick [some 1] _ rfl
     have hsu : ∀ x ∈ fl [M], x ∈ fl [[b3], M] := pick_sub [some 1] _ rfl
     exact ⟨rfl, hev⟩
   refine x_u 3 [(39, Vi x10), (40, .bool (decide (x10 ≥ 4096))), (41, .bool (decide (x10 ≥ 4096)))] ?_
   refine x_ek ?_
   refine c_if (decide (x10 ≥ 4096)) rfl h (fun h => ?_) (fun h => ?_)
   · refine c_sp ?_
     refine x_u 1 [(2, Vi 2)] ?_
     refine x_ek ?_
     refine c_ret ?_
     refine k_block_ret ?_
     refine k_then_ret ?_
     have hx := some_inj h
     subst hx
     have hy := some_inj hn8
     subst hy
     replace h := h8
     refine k_then_ret ?_
     refine k_block_ret ?_
     refine k_then_ret ?_
     refine r_ret (r_vals [Vi 2] ⟨rfl, trivial⟩ ?_)
     have hx := some_inj h
     subst hx
     have hmr : MS wl8 [M] := hms.pick [some 1] _ rfl
     have hsu : ∀ x ∈ fl [M], x ∈ fl [[b3], M] := pick_sub [some 1] _ rfl
     exact ⟨rfl, hev⟩
   refine c_skip ?_
   refine k_block ?_
   refine k_then ?_
   refine c_plain ?_
   refine x_u 2 [(42, Vi (IntKind.i64.wrap (t32__s32_l8 + 1))), (32, Vi (IntKind.i64.wrap (t32__s32_l8 + 1)))] ?_
   refine x_end rfl ?_
   have hx := some_inj h
   subst hx
   exact k_then ⟨(m8, IntKind.i64.wrap (t32__s32_l8 + 1)), ⟨rfl, rfl, rfl, rfl, trivial⟩, ⟨hn8, hev, hms, hfr, hs_p0_0_1, hs_p0_1, hb3⟩, Nat.lt_succ_self _⟩
 refine c_exit ?_
 refine k_then_exit ?_
 have hx := some_inj h
 subst hx
 have hy := some_inj hn8
 subst hy
 replace h := h8
 refine k_then_exit ?_
 refine k_block_in ?_
 refine k_then ?_
 refine c_norm [(1, Vp b3 0)] ⟨rfl, trivial⟩ (fun J => ?_)
 refine c_seq ?_
 refine c_sp ?_
 refine x_fieldAddr (xv := Vp b3 0) (Vp b3 2) rfl rfl rfl (reads_field tfld29_1 _ _) ?_
 refine x_load (xv := Vp b3 2) (Vl a_p0_1 p0_1 c_p0_1) rfl rfl rfl (reads_box tcell22 hb3 nn 2 _ rfl) ?_
 refine x_len (vs := [Vl a_p0_1 p0_1 c_p0_1]) (Vi ((p0_1).length : Int)) rfl rfl rfl (reads_len tsl22 _ _ _ _ _) ?_
 refine x_u 1 [(46, Vi 0)] ?_
 refine x_ek ?_
 refine c_block ?_
 have hpk : MS wl8 [M] := hms.pick [some 1] _ rfl
 have hsu : ∀ x ∈ fl [M], x ∈ fl [[b3], M] := pick_sub [some 1] _ rfl
 replace hs_p0_1 := hs_p0_1.sub hsu
 replace hms := hpk
 replace hfr : FR w.heap.size [] := hfr.pick [] _ rfl
 clear hpk hsu
 obtain ⟨d12, hd12, h12⟩ := bind_some h
 obtain ⟨m12, hd12⟩ := loop_some hd12
 refine c_loop (loop_rule hmx (σ := Nat × Int) (fun s => match s with | (_, t46__s46_l12) => [(44, Vl a_p0_1 p0_1 c_p0_1), (45, Vi ((p0_1).length : Int)), (46, Vi t46__s46_l12)]) (fun s w' => match s with | (m, t46__s46_l12) => loopN (certificate_check_L12 p0_1) m t46__s46_l12 = some d12 ∧ Ev [] w w' ∧ MS w' [M] ∧ FR w.heap.size [] ∧ SlR (eInt .i64) w' (fl [M]) a_p0_1 c_p0_1 p0_1) (fun s => s.1) (m12, 0) ⟨rfl, rfl, rfl, trivial⟩ ⟨hd12, hev, hms, hfr, hs_p0_1⟩ ?_)
 rintro ⟨m12, t46__s46_l12⟩ J wl12 ⟨hn12, hev, hms, hfr, hs_p0_1⟩
 rcases m12 with _ | m12
 · exact (loopN_zero hn12).elim
 obtain ⟨t12, h, hn12⟩ := bind_some hn12
 refine c_sp ?_
 refine x_u 1 [(47, .bool (decide (t46__s46_l12 < ((p0_1).length : Int))))] ?_
 refine x_ek ?_
 refine c_norm [(44, Vl a_p0_1 p0_1 c_p0_1), (45, Vi ((p0_1).length : Int)), (46, Vi t46__s46_l12), (47, .bool (decide (t46__s46_l12 < ((p0_1).length : Int))))] ⟨rfl, rfl, rfl, rfl, trivial⟩ (fun J => ?_)
 refine c_seq ?_
 refine c_if (decide (t46__s46_l12 < ((p0_1).length : Int))) rfl h (fun h => ?_) (fun h => ?_)
 · refine c_skip ?_
   refine k_then ?_
   refine c_seq ?_
   refine c_block ?_
   refine c_sp ?_
   obtain ⟨x14, hx14, h⟩ := bind_some h
   obtain ⟨ad14, cs14, hr14, hc14, hR⟩ := reads_index (Mo := []) tsl22 hs_p0_1 hx14
   obtain rfl := hR
   refine x_indexAddr (xv := Vl a_p0_1 p0_1 c_p0_1) (yv := Vi t46__s46_l12) (.pointer (some ad14)) rfl rfl rfl rfl hr14 ?_
   refine x_load (xv := .pointer (some ad14)) (Vi x14) rfl rfl rfl (reads_cell0 tcell3 hc14 (fun _ h => by cases h)) ?_
   refine x_u 1 [(6, Vi x14)] ?_
   refine x_ek ?_
   refine c_sp ?_
   refine x_u 3 [(50, Vi x14), (51, .bool (decide (x14 < 0))), (52, .bool (decide (x14 < 0)))] ?_
   refine x_if 52 (decide (x14 < 0)) rfl h (fun h => ?_) (fun h => ?_)
   · refine x_u 3 [(53, undef), (54, undef), (55, .bool true)] ?_
     refine x_ek ?_
     refine c_true rfl ?_
     refine c_sp ?_
     refine x_u 1 [(2, Vi 2)] ?_
     refine x_ek ?_
     refine c_ret ?_
     refine k_block_ret ?_
     refine k_then_ret ?_
     have hx := some_inj h
     subst hx
     have hy := some_inj hn12
     subst hy
     replace h := h12
     refine k_then_ret ?_
     refine k_block_ret ?_
     refine k_then_ret ?_
     refine r_ret (r_vals [Vi 2] ⟨rfl, trivial⟩ ?_)
     have hx := some_inj h
     subst hx
     have hmr : MS wl12 [M] := hms.pick [some 0] _ rfl
     have hsu : ∀ x ∈ fl [M], x ∈ fl [M] := pick_sub [some 0] _ rfl
     exact ⟨rfl, hev⟩
   refine x_u 3 [(53, Vi x14), (54, .bool (decide (x14 ≥ 96))), (55, .bool (decide (x14 ≥ 96)))] ?_
   refine x_ek ?_
   refine c_if (decide (x14 ≥ 96)) rfl h (fun h => ?_) (fun h => ?_)
   · refine c_sp ?_
     refine x_u 1 [(2, Vi 2)] ?_
     refine x_ek ?_
     refine c_ret ?_
     refine k_block_ret ?_
     refine k_then_ret ?_
     have hx := some_inj h
     subst hx
     have hy := some_inj hn12
     subst hy
     replace h := h12
     refine k_then_ret ?_
     refine k_block_ret ?_
     refine k_then_ret ?_
     refine r_ret (r_vals [Vi 2] ⟨rfl, trivial⟩ ?_)
     have hx := some_inj h
     subst hx
     have hmr : MS wl12 [M] := hms.pick [some 0] _ rfl
     have hsu : ∀ x ∈ fl [M], x ∈ fl [M] := pick_sub [some 0] _ rfl
     exact ⟨rfl, hev⟩
   refine c_skip ?_
   refine k_block ?_
   refine k_then ?_
   refine c_plain ?_
   refine x_u 2 [(56, Vi (IntKind.i64.wrap (t46__s46_l12 + 1))), (46, Vi (IntKind.i64.wrap (t46__s46_l12 + 1)))] ?_
   refine x_end rfl ?_
   have hx := some_inj h
   subst hx
   exact k_then ⟨(m12, IntKind.i64.wrap (t46__s46_l12 + 1)), ⟨rfl, rfl, rfl, trivial⟩, ⟨hn12, hev, hms, hfr, hs_p0_1⟩, Nat.lt_succ_self _⟩
 refine c_exit ?_
 refine k_then_exit ?_
 have hx := some_inj h
 subst hx
 have hy := some_inj hn12
 subst hy
 replace h := h12
 refine k_then_exit ?_
 refine k_block_in ?_
 refine k_then ?_
 refine c_norm [] trivial (fun J => ?_)
 refine c_sp ?_
 refine x_u 1 [(2, Vi 0)] ?_
 refine x_ek ?_
 refine c_ret ?_
 refine r_ret (r_vals [Vi 0] ⟨rfl, trivial⟩ ?_)
 have hx := some_inj h
 subst hx
 have hmr : MS wl12 [M] := hms.pick [some 0] _ rfl
 have hsu : ∀ x ∈ fl [M], x ∈ fl [M] := pick_sub [some 0] _ rfl
 exact ⟨rfl, hev⟩
def certificate_Encode_L21 (p0_1 : List Int) (s : (List Int) × Int) : Option (Step ((List Int) × Int) (List Int)) :=
match s with
| (d9_l21, t52__s52_l21) =>
(if (decide (t52__s52_l21 < ((p0_1).length : Int))) = true then
((idx p0_1 t52__s52_l21).bind fun x23 =>
(if d9_l21.length + ([IntKind.u8.wrap x23]).length ≤ 4294967296 then
some (.next ((d9_l21 ++ [IntKind.u8.wrap x23]), IntKind.i64.wrap (t52__s52_l21 + 1)))
else none))
else
some (.done d9_l21))

def certificate_Encode_L11 (p0_0_1 : List Int) (s : (List Int) × Int) : Option (Step ((List Int) × Int) (List Int)) :=
match s with
| (d9_l11, t29__s29_l11) =>
(if (decide (t29__s29_l11 < ((p0_0_1).length : Int))) = true then
((idx p0_0_1 t29__s29_l11).bind fun x13 =>
(if d9_l11.length + ([IntKind.u8.wrap (Int.fdiv x13 (2 ^ (min (Int.toNat (8)) IntKind.i64.bits))), IntKind.u8.wrap x13]).length ≤ 4294967296 then
some (.next ((d9_l11 ++ [IntKind.u8.wrap (Int.fdiv x13 (2 ^ (min (Int.toNat (8)) IntKind.i64.bits))), IntKind.u8.wrap x13]), IntKind.i64.wrap (t29__s29_l11 + 1)))
else none))
else
some (.done d9_l11))

def certificate_Encode (p0_0_0 : Int) (p0_0_1 : List Int) (p0_1 : List Int) : Option ((List Int) × Int) :=
((certificate_check p0_0_0 p0_0_1 p0_1).bind fun x6 =>
(if (x6 != 0) = true then
some ([], x6)
else
((loop (certificate_Encode_L11 p0_0_1) (([IntKind.u8.wrap p0_0_0, IntKind.u8.wrap ((p0_0_1).length : Int)] : List Int), 0)).bind fun d => match d with
| d9_x11 => (if d9_x11.length + ([IntKind.u8.wrap ((p0_1).length : Int)]).length ≤ 4294967296 then
((loop (certificate_Encode_L21 p0_1) ((d9_x11 ++ [IntKind.u8.wrap ((p0_1).length : Int)]), 0)).bind fun d => match d with
| d9_x21 => some (d9_x21, 0))
else none))))

theorem certificate_Encode_w (p0_0_0 : Int) (a_p0_0_1 : Option Addr) (c_p0_0_1 : Nat) (p0_0_1 : List Int) (a_p0_1 : Option Addr) (c_p0_1 : Nat) (p0_1 : List Int) (r : (List Int) × Int) (w : World) (M : List Nat) (hms : MS w [M]) (hs_p0_0_1 : SlR (eInt .i64) w (fl [M]) a_p0_0_1 c_p0_0_1 p0_0_1) (hs_p0_1 : SlR (eInt .i64) w (fl [M]) a_p0_1 c_p0_1 p0_1) (h : certificate_Encode p0_0_0 p0_0_1 p0_1 = some r) : CallVC Try.prog 21 [.agg #[Vi p0_0_0, Vl a_p0_0_1 p0_0_1 c_p0_0_1, Vl a_p0_1 p0_1 c_p0_1]] w fun v w' => ∃ (a0' : Option Addr), ∃ (c0' : Nat), v = .tuple #[Vl a0' r.1 c0', Vi r.2] ∧ Ev [] w w' ∧ MS w' [blk a0', M] ∧ FR w.heap.size [blk a0'] ∧ OwnS (eInt .u8) 5 w' (fl [blk a0', M]) a0' c0' r.1 := by
 refine calls_vc hmx Try.func21 (by kernel_rfl) rfl (rs := [.tmp 2, .tmp 3]) rfl (by kernel_rfl) (args := [.agg #[Vi p0_0_0, Vl a_p0_0_1 p0_0_1 c_p0_0_1, Vl a_p0_1 p0_1 c_p0_1]]) rfl ?_
 have hev : Ev [] w w := Ev.refl _ _
 have hfr : FR w.heap.size [] := FR.nil _
 refine c_sp ?_
 refine x_box (xv := .agg #[Vi p0_0_0, Vl a_p0_0_1 p0_0_1 c_p0_0_1, Vl a_p0_1 p0_1 c_p0_1]) rfl rfl rfl (fun b3 w3 hq3 hb3 he3 hz3 => ?_)
 replace hb3 : w3.heap[b3]? = some (.cells #[Vi p0_0_0, Vl a_p0_0_1 p0_0_1 c_p0_0_1, Vl a_p0_1 p0_1 c_p0_1] 29 (0, 0)) := hb3
 refine inl1 ?_
 have hst := Stp.box (ls := [M]) he3 hq3
 replace hs_p0_0_1 := hs_p0_0_1.step hst
 replace hs_p0_1 := hs_p0_1.step hst
 replace hms := hms.box he3 hq3 hb3
 replace hfr := hfr.box hev.size hq3
 replace hev := hev.ext he3
 refine x_u 2 [(2, .slice none 0 0), (3, Vi 0)] ?_
 refine x_ek ?_
 refine c_seq ?_
 refine c_sp ?_
 refine x_load (xv := Vp b3 0) (.agg #[Vi p0_0_0, Vl a_p0_0_1 p0_0_1 c_p0_0_1, Vl a_p0_1 p0_1 c_p0_1]) rfl rfl rfl (reads_boxagg 0 [Vi p0_0_0, Vl a_p0_0_1 p0_0_1 c_p0_0_1, Vl a_p0_1 p0_1 c_p0_1] tagg29 hb3 nn rfl) ?_
 obtain ⟨x6, hx, h⟩ := bind_some h
 have hpk : MS w3 ([] ++ [[b3], M]) := hms.pick [some 0, some 1] _ rfl
 have hsb0 : ∀ x ∈ fl ([] ++ [[b3], M]), x ∈ fl [[b3], M] := pick_sub [some 0, some 1] _ rfl
 have hsb : ∀ x ∈ fl ([] ++ [(fl [[b3], M])]), x ∈ fl [[b3], M] := fun x hx => hsb0 x (fl_unfold x hx)
 have hcall := certificate_check_w p0_0_0 a_p0_0_1 c_p0_0_1 p0_0_1 a_p0_1 c_p0_1 p0_1 _ w3 (fl [[b3], M]) (MS.fold (P := []) hpk) (hs_p0_0_1.sub hsb) (hs_p0_1.sub hsb) hx
 refine x_call 46 #[] #[] [.agg #[Vi p0_0_0, Vl a_p0_0_1 p0_0_1 c_p0_0_1, Vl a_p0_1 p0_1 c_p0_1]] _ rfl rfl rfl rfl hcall ?_
 rintro v w7 ⟨rfl, he7⟩
 clear hcall hx
 refine inl1 ?_
 have hst := Stp.ext (ls := [[b3], M]) he7
 replace hs_p0_0_1 := hs_p0_0_1.step hst
 replace hs_p0_1 := hs_p0_1.step hst
 replace hb3 := he7.box hb3 nn
 replace hms := hms.ev he7
 replace hev := hev.ext he7
 clear hpk hsb hsb0
 refine x_u 1 [(4, Vi x6)] ?_
 refine x_ek ?_
 refine c_sp ?_
 refine x_u 2 [(12, Vi x6), (13, .bool (x6 != 0))] ?_
 refine x_ek ?_
 refine c_if (x6 != 0) rfl h (fun h => ?_) (fun h => ?_)
 · refine c_sp ?_
   refine x_u 3 [(14, Vi x6), (2, .slice none 0 0), (3, Vi x6)] ?_
   refine x_ek ?_
   refine c_ret ?_
   refine k_then_ret ?_
   refine r_ret (r_vals [.slice none 0 0, Vi x6] ⟨rfl, rfl, trivial⟩ ?_)
   have hx := some_inj h
   subst hx
   have hmr : MS w7 [blk none, M] := hms.pick [none, some 1] _ rfl
   have hsu : ∀ x ∈ fl [blk none, M], x ∈ fl [[b3], M] := pick_sub [none, some 1] _ rfl
   have hfe : FR w.heap.size [blk none] := hfr.pick [none] _ rfl
   exact ⟨none, 0, rfl, hev, hmr, hfe, OwnS.nil _ _ _ _⟩
 refine c_skip ?_
 refine k_then ?_
 refine c_sp ?_
 refine x_fieldAddr (xv := Vp b3 0) (Vp b3 0) rfl rfl rfl (reads_field tfld29_0 _ _) ?_
 refine x_fieldAddr (xv := Vp b3 0) (Vp b3 0) rfl rfl rfl (reads_field tfld27_0 _ _) ?_
 refine x_load (xv := Vp b3 0) (Vi p0_0_0) rfl rfl rfl (reads_box tcell3 hb3 nn 0 _ rfl) ?_
 refine x_convert (.int .u8 (IntKind.u8.wrap p0_0_0)) _ rfl rfl rfl (tcv3_5 p0_0_0 _) ?_
 refine inl1 ?_
 refine x_fieldAddr (xv := Vp b3 0) (Vp b3 0) rfl rfl rfl (reads_field tfld29_0 _ _) ?_
 refine x_fieldAddr (xv := Vp b3 0) (Vp b3 1) rfl rfl rfl (reads_field tfld27_1 _ _) ?_
 refine x_load (xv := Vp b3 1) (Vl a_p0_0_1 p0_0_1 c_p0_0_1) rfl rfl rfl (reads_box tcell22 hb3 nn 1 _ rfl) ?_
 refine x_len (vs := [Vl a_p0_0_1 p0_0_1 c_p0_0_1]) (Vi ((p0_0_1).length : Int)) rfl rfl rfl (reads_len tsl22 _ _ _ _ _) ?_
 refine x_convert (.int .u8 (IntKind.u8.wrap ((p0_0_1).length : Int))) _ rfl rfl rfl (tcv3_5 ((p0_0_1).length : Int) _) ?_
 refine inl1 ?_
 refine x_buildSlice (vs := [(0, .int .u8 (IntKind.u8.wrap p0_0_0)), (1, .int .u8 (IntKind.u8.wrap ((p0_0_1).length : Int)))]) #[.int .u8 (IntKind.u8.wrap p0_0_0), .int .u8 (IntKind.u8.wrap ((p0_0_1).length : Int))] 5 rfl rfl rfl (by kernel_rfl) (fun b8 w8 hq8 hb8 he8 hz8 => ?_)
 refine inl1 ?_
 obtain ⟨a8, ea8⟩ : ∃ a, a = some (⟨b8, 0, none⟩ : Addr) := ⟨_, rfl⟩
 have hw8 : ∀ M, OwnS (eInt .u8) 5 w8 M a8 2 ([IntKind.u8.wrap p0_0_0, IntKind.u8.wrap ((p0_0_1).length : Int)] : List Int) := fun M => ea8 ▸ own_of_box hb8 (by decide) rfl rfl (cells_at (cs := [.int .u8 (IntKind.u8.wrap p0_0_0), .int .u8 (IntKind.u8.wrap ((p0_0_1).length : Int))]) (CellsOf.cons (c := [.int .u8 (IntKind.u8.wrap p0_0_0)]) rfl (CellsOf.cons (c := [.int .u8 (IntKind.u8.wrap ((p0_0_1).length : Int))]) rfl CellsOf.nil)))
 have hn8 : ∀ b ∈ blk a8, w7.heap.size ≤ b ∧ b < w8.heap.size := by subst ea8; intro b hb; simp only [blk, List.mem_singleton] at hb; subst hb; exact ⟨Nat.le_of_eq hq8.symm, lt_of_heap hb8⟩
 clear hb8
 have hst := Stp.push (ls := [[b3], M]) (l := blk a8) he8 (fun _ h => by cases h) (fun b hb => (hn8 b hb).1)
 replace hs_p0_0_1 := hs_p0_0_1.step hst
 replace hs_p0_1 := hs_p0_1.step hst
 replace hb3 := he8.box hb3 nn
 replace hms := hms.push he8 hn8
 replace hfr := hfr.push (fun b hb => Nat.le_trans hev.size (hn8 b hb).1)
 replace hev := hev.ext he8
 have ho8 := hw8 (fl [blk a8, [b3], M])
 clear hw8
 rw [← ea8]
 refine x_u 1 [(5, .slice a8 (([IntKind.u8.wrap p0_0_0, IntKind.u8.wrap ((p0_0_1).length : Int)] : List Int)).length 2)] ?_
 refine x_ek ?_
 refine c_norm [(1, Vp b3 0), (5, .slice a8 (([IntKind.u8.wrap p0_0_0, IntKind.u8.wrap ((p0_0_1).length : Int)] : List Int)).length 2)] ⟨rfl, rfl, trivial⟩ (fun J => ?_)
 refine c_seq ?_
 refine c_sp ?_
 refine x_fieldAddr (xv := Vp b3 0) (Vp b3 0) rfl rfl rfl (reads_field tfld29_0 _ _) ?_
 refine x_fieldAddr (xv := Vp b3 0) (Vp b3 1) rfl rfl rfl (reads_field tfld27_1 _ _) ?_
 refine x_load (xv := Vp b3 1) (Vl a_p0_0_1 p0_0_1 c_p0_0_1) rfl rfl rfl (reads_box tcell22 hb3 nn 1 _ rfl) ?_
 refine x_len (vs := [Vl a_p0_0_1 p0_0_1 c_p0_0_1]) (Vi ((p0_0_1).length : Int)) rfl rfl rfl (reads_len tsl22 _ _ _ _ _) ?_
 refine x_u 1 [(29, Vi 0)] ?_
 refine x_ek ?_
 refine c_block ?_
 have hpk : MS w8 [[b3], blk a8, M] := hms.pick [some 1, some 0, some 2] _ rfl
 have hsu : ∀ x ∈ fl [[b3], blk a8, M], x ∈ fl [blk a8, [b3], M] := pick_sub [some 1, some 0, some 2] _ rfl
 replace hs_p0_0_1 := hs_p0_0_1.sub hsu
 replace hs_p0_1 := hs_p0_1.sub hsu
 replace ho8 := ho8.sub hsu
 replace hms := hpk
 replace hfr : FR w.heap.size [[b3], blk a8] := hfr.pick [some 1, some 0] _ rfl
 clear hpk hsu
 obtain ⟨d11, hd11, h11⟩ := bind_some h
 obtain ⟨m11, hd11⟩ := loop_some hd11
 refine c_loop (loop_rule hmx (σ := Nat × (List Int) × Int × Option Addr × Nat) (fun s => match s with | (_, d9_l11, t29__s29_l11, a9_l11, c9_l11) => [(1, Vp b3 0), (5, Vl a9_l11 d9_l11 c9_l11), (27, Vl a_p0_0_1 p0_0_1 c_p0_0_1), (28, Vi ((p0_0_1).length : Int)), (29, Vi t29__s29_l11)]) (fun s w' => match s with | (m, d9_l11, t29__s29_l11, a9_l11, c9_l11) => loopN (certificate_Encode_L11 p0_0_1) m (d9_l11, t29__s29_l11) = some d11 ∧ Ev [] w w' ∧ MS w' [[b3], blk a9_l11, M] ∧ FR w.heap.size [[b3], blk a9_l11] ∧ SlR (eInt .i64) w' (fl [[b3], blk a9_l11, M]) a_p0_0_1 c_p0_0_1 p0_0_1 ∧ SlR (eInt .i64) w' (fl [[b3], blk a9_l11, M]) a_p0_1 c_p0_1 p0_1 ∧ w'.heap[b3]? = some (.cells #[Vi p0_0_0, Vl a_p0_0_1 p0_0_1 c_p0_0_1, Vl a_p0_1 p0_1 c_p0_1] 29 (0, 0)) ∧ OwnS (eInt .u8) 5 w' (fl [[b3], blk a9_l11, M]) a9_l11 c9_l11 d9_l11) (fun s => s.1) (m11, ([IntKind.u8.wrap p0_0_0, IntKind.u8.wrap ((p0_0_1).length : Int)] : List Int), 0, a8, 2) ⟨rfl, rfl, rfl, rfl, rfl, trivial⟩ ⟨hd11, hev, hms, hfr, hs_p0_0_1, hs_p0_1, hb3, ho8⟩ ?_)
 rintro ⟨m11, d9_l11, t29__s29_l11, a9_l11, c9_l11⟩ J wl11 ⟨hn11, hev, hms, hfr, hs_p0_0_1, hs_p0_1, hb3, ho8⟩
 rcases m11 with _ | m11
 · exact (loopN_zero hn11).elim
 obtain ⟨t11, h, hn11⟩ := bind_some hn11
 refine c_sp ?_
 refine x_u 1 [(30, .bool (decide (t29__s29_l11 < ((p0_0_1).length : Int))))] ?_
 refine x_ek ?_
 refine c_norm [(1, Vp b3 0), (5, Vl a9_l11 d9_l11 c9_l11), (27, Vl a_p0_0_1 p0_0_1 c_p0_0_1), (28, Vi ((p0_0_1).length : Int)), (29, Vi t29__s29_l11), (30, .bool (decide (t29__s29_l11 < ((p0_0_1).length : Int))))] ⟨rfl, rfl, rfl, rfl, rfl, rfl, trivial⟩ (fun J => ?_)
 refine c_seq ?_
 refine c_if (decide (t29__s29_l11 < ((p0_0_1).length : Int))) rfl h (fun h => ?_) (fun h => ?_)
 · refine c_skip ?_
   refine k_then ?_
   refine c_seq ?_
   refine c_block ?_
   refine c_sp ?_
   obtain ⟨x13, hx13, h⟩ := bind_some h
   obtain ⟨ad13, cs13, hr13, hc13, hR⟩ := reads_index (Mo := []) tsl22 hs_p0_0_1 hx13
   obtain rfl := hR
   refine x_indexAddr (xv := Vl a_p0_0_1 p0_0_1 c_p0_0_1) (yv := Vi t29__s29_l11) (.pointer (some ad13)) rfl rfl rfl rfl hr13 ?_
   refine x_load (xv := .pointer (some ad13)) (Vi x13) rfl rfl rfl (reads_cell0 tcell3 hc13 (fun _ h => by cases h)) ?_
   refine x_u 1 [(7, Vi x13)] ?_
   refine x_ek ?_
   refine c_plain ?_
   refine x_u 3 [(33, Vl a9_l11 d9_l11 c9_l11), (34, Vi x13), (35, Vi (Int.fdiv x13 (2 ^ (min (Int.toNat (8)) IntKind.i64.bits))))] ?_
   refine x_convert (.int .u8 (IntKind.u8.wrap (Int.fdiv x13 (2 ^ (min (Int.toNat (8)) IntKind.i64.bits))))) _ rfl rfl rfl (tcv3_5 (Int.fdiv x13 (2 ^ (min (Int.toNat (8)) IntKind.i64.bits))) _) ?_
   refine inl1 ?_
   refine x_u 1 [(37, Vi x13)] ?_
   refine x_convert (.int .u8 (IntKind.u8.wrap x13)) _ rfl rfl rfl (tcv3_5 x13 _) ?_
   refine inl1 ?_
   refine x_buildSlice (vs := [(0, .int .u8 (IntKind.u8.wrap (Int.fdiv x13 (2 ^ (min (Int.toNat (8)) IntKind.i64.bits))))), (1, .int .u8 (IntKind.u8.wrap x13))]) #[.int .u8 (IntKind.u8.wrap (Int.fdiv x13 (2 ^ (min (Int.toNat (8)) IntKind.i64.bits)))), .int .u8 (IntKind.u8.wrap x13)] 5 rfl rfl rfl (by kernel_rfl) (fun b15 w15 hq15 hb15 he15 hz15 => ?_)
   refine inl1 ?_
   have hms0 := hms
   have hst := Stp.ext (ls := [[b3], blk a9_l11, M]) he15
   replace hb3 := he15.box hb3 nn
   replace hs_p0_0_1 := hs_p0_0_1.step hst
   replace hs_p0_1 := hs_p0_1.step hst
   replace ho8 := ho8.step hst he15 nn2
   replace hms := hms.ev he15
   replace hev := hev.ext he15
   have hs15 : SlR (eInt .u8) w15 (fl [[b3], blk a9_l11, M]) (Ad b15 0) 2 ([IntKind.u8.wrap (Int.fdiv x13 (2 ^ (min (Int.toNat (8)) IntKind.i64.bits))), IntKind.u8.wrap x13]) := ro_of_box hms0 hq15 hb15 rfl rfl (cells_at (cs := [.int .u8 (IntKind.u8.wrap (Int.fdiv x13 (2 ^ (min (Int.toNat (8)) IntKind.i64.bits)))), .int .u8 (IntKind.u8.wrap x13)]) (CellsOf.cons (c := [.int .u8 (IntKind.u8.wrap (Int.fdiv x13 (2 ^ (min (Int.toNat (8)) IntKind.i64.bits))))]) rfl (CellsOf.cons (c := [.int .u8 (IntKind.u8.wrap x13)]) rfl CellsOf.nil)))
   clear hb15 hms0
   have hg := guard_l h
   replace h := guard_r h
   obtain ⟨a17, c17, w17, hr17, he17, hn17, hm17, hw17⟩ := own_appendN tel46 46 ho8 (mem_flat 1 rfl) hs15 hg
   refine x_builtin (vs := [Vl a9_l11 d9_l11 c9_l11, .slice (Ad b15 0) ([IntKind.u8.wrap (Int.fdiv x13 (2 ^ (min (Int.toNat (8)) IntKind.i64.bits))), IntKind.u8.wrap x13]).length 2]) _ w17 rfl rfl rfl rfl (run_value _ _ _ _ hr17) ?_
   refine inl1 ?_
   have hst : Stp (fl [[b3], blk a9_l11, M]) w15 (fl [[b3], blk a17, M]) w17 := Stp.upd 1 he17 rfl (fun b hb => (hn17 b hb).1)
   replace hb3 := he17.box hb3 (hms.apart 0 1 rfl rfl rfl _ mem1)
   replace hs_p0_0_1 := hs_p0_0_1.step hst
   replace hs_p0_1 := hs_p0_1.step hst
   replace hs15 := hs15.step hst
   replace hms : MS w17 [[b3], blk a17, M] := hms.upd 1 he17 rfl hn17
   have hfr2 : FR w.heap.size [[b3], blk a17] := hfr.upd 1 rfl hev.size (fun b hb => (hn17 b hb).1)
   replace hev := hev.then he17 (fun b hb => .inr (hfr.at 1 rfl b hb))
   replace hfr := hfr2
   clear hfr2
   replace ho8 := hw17 (fl [[b3], blk a17, M]) hst.new
   clear hw17
   refine x_u 1 [(5, .slice a17 ((d9_l11 ++ [IntKind.u8.wrap (Int.fdiv x13 (2 ^ (min (Int.toNat (8)) IntKind.i64.bits))), IntKind.u8.wrap x13])).length c17)] ?_
   refine x_end rfl ?_
   refine k_block ?_
   refine k_then ?_
   refine c_plain ?_
   refine x_u 2 [(41, Vi (IntKind.i64.wrap (t29__s29_l11 + 1))), (29, Vi (IntKind.i64.wrap (t29__s29_l11 + 1)))] ?_
   refine x_end rfl ?_
   have hx := some_inj h
   subst hx
   exact k_then ⟨(m11, (d9_l11 ++ [IntKind.u8.wrap (Int.fdiv x13 (2 ^ (min (Int.toNat (8)) IntKind.i64.bits))), IntKind.u8.wrap x13]), IntKind.i64.wrap (t29__s29_l11 + 1), a17, c17), ⟨rfl, rfl, rfl, rfl, rfl, trivial⟩, ⟨hn11, hev, hms, hfr, hs_p0_0_1, hs_p0_1, hb3, ho8⟩, Nat.lt_succ_self _⟩
 refine c_exit ?_
 refine k_then_exit ?_
 have hx := some_inj h
 subst hx
 have hy := some_inj hn11
 subst hy
 replace h := h11
 refine k_then_exit ?_
 refine k_block_in ?_
 refine k_then ?_
 refine c_norm [(1, Vp b3 0), (5, Vl a9_l11 d9_l11 c9_l11)] ⟨rfl, rfl, trivial⟩ (fun J => ?_)
 refine c_sp ?_
 refine x_u 1 [(42, Vl a9_l11 d9_l11 c9_l11)] ?_
 refine x_fieldAddr (xv := Vp b3 0) (Vp b3 2) rfl rfl rfl (reads_field tfld29_1 _ _) ?_
 refine x_load (xv := Vp b3 2) (Vl a_p0_1 p0_1 c_p0_1) rfl rfl rfl (reads_box tcell22 hb3 nn 2 _ rfl) ?_
 refine x_len (vs := [Vl a_p0_1 p0_1 c_p0_1]) (Vi ((p0_1).length : Int)) rfl rfl rfl (reads_len tsl22 _ _ _ _ _) ?_
 refine x_convert (.int .u8 (IntKind.u8.wrap ((p0_1).length : Int))) _ rfl rfl rfl (tcv3_5 ((p0_1).length : Int) _) ?_
 refine inl1 ?_
 refine x_buildSlice (vs := [(0, .int .u8 (IntKind.u8.wrap ((p0_1).length : Int)))]) #[.int .u8 (IntKind.u8.wrap ((p0_1).length : Int))] 5 rfl rfl rfl (by kernel_rfl) (fun b18 w18 hq18 hb18 he18 hz18 => ?_)
 refine inl1 ?_
 have hms0 := hms
 have hst := Stp.ext (ls := [[b3], blk a9_l11, M]) he18
 replace hb3 := he18.box hb3 nn
 replace hs_p0_0_1 := hs_p0_0_1.step hst
 replace hs_p0_1 := hs_p0_1.step hst
 replace ho8 := ho8.step hst he18 nn2
 replace hms := hms.ev he18
 replace hev := hev.ext he18
 have hs18 : SlR (eInt .u8) w18 (fl [[b3], blk a9_l11, M]) (Ad b18 0) 1 ([IntKind.u8.wrap ((p0_1).length : Int)]) := ro_of_box hms0 hq18 hb18 rfl rfl (cells_at (cs := [.int .u8 (IntKind.u8.wrap ((p0_1).length : Int))]) (CellsOf.cons (c := [.int .u8 (IntKind.u8.wrap ((p0_1).length : Int))]) rfl CellsOf.nil))
 clear hb18 hms0
 have hg := guard_l h
 replace h := guard_r h
 obtain ⟨a20, c20, w20, hr20, he20, hn20, hm20, hw20⟩ := own_appendN tel46 46 ho8 (mem_flat 1 rfl) hs18 hg
 refine x_builtin (vs := [Vl a9_l11 d9_l11 c9_l11, .slice (Ad b18 0) ([IntKind.u8.wrap ((p0_1).length : Int)]).length 1]) _ w20 rfl rfl rfl rfl (run_value _ _ _ _ hr20) ?_
 refine inl1 ?_
 have hst : Stp (fl [[b3], blk a9_l11, M]) w18 (fl [[b3], blk a20, M]) w20 := Stp.upd 1 he20 rfl (fun b hb => (hn20 b hb).1)
 replace hb3 := he20.box hb3 (hms.apart 0 1 rfl rfl rfl _ mem1)
 replace hs_p0_0_1 := hs_p0_0_1.step hst
 replace hs_p0_1 := hs_p0_1.step hst
 replace hs18 := hs18.step hst
 replace hms : MS w20 [[b3], blk a20, M] := hms.upd 1 he20 rfl hn20
 have hfr2 : FR w.heap.size [[b3], blk a20] := hfr.upd 1 rfl hev.size (fun b hb => (hn20 b hb).1)
 replace hev := hev.then he20 (fun b hb => .inr (hfr.at 1 rfl b hb))
 replace hfr := hfr2
 clear hfr2
 replace ho8 := hw20 (fl [[b3], blk a20, M]) hst.new
 clear hw20
 refine x_u 1 [(5, .slice a20 ((d9_l11 ++ [IntKind.u8.wrap ((p0_1).length : Int)])).length c20)] ?_
 refine x_ek ?_
 refine c_seq ?_
 refine c_sp ?_
 refine x_fieldAddr (xv := Vp b3 0) (Vp b3 2) rfl rfl rfl (reads_field tfld29_1 _ _) ?_
 refine x_load (xv := Vp b3 2) (Vl a_p0_1 p0_1 c_p0_1) rfl rfl rfl (reads_box tcell22 hb3 nn 2 _ rfl) ?_
 refine x_len (vs := [Vl a_p0_1 p0_1 c_p0_1]) (Vi ((p0_1).length : Int)) rfl rfl rfl (reads_len tsl22 _ _ _ _ _) ?_
 refine x_u 1 [(52, Vi 0)] ?_
 refine x_ek ?_
 refine c_block ?_
 have hpk : MS w20 [blk a20, M] := hms.pick [some 1, some 2] _ rfl
 have hsu : ∀ x ∈ fl [blk a20, M], x ∈ fl [[b3], blk a20, M] := pick_sub [some 1, some 2] _ rfl
 replace ho8 := ho8.sub hsu
 replace hs_p0_1 := hs_p0_1.sub hsu
 replace hms := hpk
 replace hfr : FR w.heap.size [blk a20] := hfr.pick [some 1] _ rfl
 clear hpk hsu
 obtain ⟨d21, hd21, h21⟩ := bind_some h
 obtain ⟨m21, hd21⟩ := loop_some hd21
 refine c_loop (loop_rule hmx (σ := Nat × (List Int) × Int × Option Addr × Nat) (fun s => match s with | (_, d9_l21, t52__s52_l21, a9_l21, c9_l21) => [(5, Vl a9_l21 d9_l21 c9_l21), (50, Vl a_p0_1 p0_1 c_p0_1), (51, Vi ((p0_1).length : Int)), (52, Vi t52__s52_l21)]) (fun s w' => match s with | (m, d9_l21, t52__s52_l21, a9_l21, c9_l21) => loopN (certificate_Encode_L21 p0_1) m (d9_l21, t52__s52_l21) = some d21 ∧ Ev [] w w' ∧ MS w' [blk a9_l21, M] ∧ FR w.heap.size [blk a9_l21] ∧ OwnS (eInt .u8) 5 w' (fl [blk a9_l21, M]) a9_l21 c9_l21 d9_l21 ∧ SlR (eInt .i64) w' (fl [blk a9_l21, M]) a_p0_1 c_p0_1 p0_1) (fun s => s.1) (m21, (d9_l11 ++ [IntKind.u8.wrap ((p0_1).length : Int)]), 0, a20, c20) ⟨rfl, rfl, rfl, rfl, trivial⟩ ⟨hd21, hev, hms, hfr, ho8, hs_p0_1⟩ ?_)
 rintro ⟨m21, d9_l21, t52__s52_l21, a9_l21, c9_l21⟩ J wl21 ⟨hn21, hev, hms, hfr, ho8, hs_p0_1⟩
 rcases m21 with _ | m21
 · exact (loopN_zero hn21).elim
 obtain ⟨t21, h, hn21⟩ := bind_some hn21
 refine c_sp ?_
 refine x_u 1 [(53, .bool (decide (t52__s52_l21 < ((p0_1).length : Int))))] ?_
 refine x_ek ?_
 refine c_norm [(5, Vl a9_l21 d9_l21 c9_l21), (50, Vl a_p0_1 p0_1 c_p0_1), (51, Vi ((p0_1).length : Int)), (52, Vi t52__s52_l21), (53, .bool (decide (t52__s52_l21 < ((p0_1).length : Int))))] ⟨rfl, rfl, rfl, rfl, rfl, trivial⟩ (fun J => ?_)
 refine c_seq ?_
 refine c_if (decide (t52__s52_l21 < ((p0_1).length : Int))) rfl h (fun h => ?_) (fun h => ?_)
 · refine c_skip ?_
   refine k_then ?_
   refine c_seq ?_
   refine c_block ?_
   refine c_sp ?_
   obtain ⟨x23, hx23, h⟩ := bind_some h
   obtain ⟨ad23, cs23, hr23, hc23, hR⟩ := reads_index (Mo := []) tsl22 hs_p0_1 hx23
   obtain rfl := hR
   refine x_indexAddr (xv := Vl a_p0_1 p0_1 c_p0_1) (yv := Vi t52__s52_l21) (.pointer (some ad23)) rfl rfl rfl rfl hr23 ?_
   refine x_load (xv := .pointer (some ad23)) (Vi x23) rfl rfl rfl (reads_cell0 tcell3 hc23 (fun _ h => by cases h)) ?_
   refine x_u 1 [(9, Vi x23)] ?_
   refine x_ek ?_
   refine c_plain ?_
   refine x_u 2 [(56, Vl a9_l21 d9_l21 c9_l21), (57, Vi x23)] ?_
   refine x_convert (.int .u8 (IntKind.u8.wrap x23)) _ rfl rfl rfl (tcv3_5 x23 _) ?_
   refine inl1 ?_
   refine x_buildSlice (vs := [(0, .int .u8 (IntKind.u8.wrap x23))]) #[.int .u8 (IntKind.u8.wrap x23)] 5 rfl rfl rfl (by kernel_rfl) (fun b25 w25 hq25 hb25 he25 hz25 => ?_)
   refine inl1 ?_
   have hms0 := hms
   have hst := Stp.ext (ls := [blk a9_l21, M]) he25
   replace ho8 := ho8.step hst he25 nn2
   replace hs_p0_1 := hs_p0_1.step hst
   replace hms := hms.ev he25
   replace hev := hev.ext he25
   have hs25 : SlR (eInt .u8) w25 (fl [blk a9_l21, M]) (Ad b25 0) 1 ([IntKind.u8.wrap x23]) := ro_of_box hms0 hq25 hb25 rfl rfl (cells_at (cs := [.int .u8 (IntKind.u8.wrap x23)]) (CellsOf.cons (c := [.int .u8 (IntKind.u8.wrap x23)]) rfl CellsOf.nil))
   clear hb25 hms0
   have hg := guard_l h
   replace h := guard_r h
   obtain ⟨a27, c27, w27, hr27, he27, hn27, hm27, hw27⟩ := own_appendN tel46 46 ho8 (mem_flat 0 rfl) hs25 hg
   refine x_builtin (vs := [Vl a9_l21 d9_l21 c9_l21, .slice (Ad b25 0) ([IntKind.u8.wrap x23]).length 1]) _ w27 rfl rfl rfl rfl (run_value _ _ _ _ hr27) ?_
   refine inl1 ?_
   have hst : Stp (fl [blk a9_l21, M]) w25 (fl [blk a27, M]) w27 := Stp.upd 0 he27 rfl (fun b hb => (hn27 b hb).1)
   replace hs_p0_1 := hs_p0_1.step hst
   replace hs25 := hs25.step hst
   replace hms : MS w27 [blk a27, M] := hms.upd 0 he27 rfl hn27
   have hfr2 : FR w.heap.size [blk a27] := hfr.upd 0 rfl hev.size (fun b hb => (hn27 b hb).1)
   replace hev := hev.then he27 (fun b hb => .inr (hfr.at 0 rfl b hb))
   replace hfr := hfr2
   clear hfr2
   replace ho8 := hw27 (fl [blk a27, M]) hst.new
   clear hw27
   refine x_u 1 [(5, .slice a27 ((d9_l21 ++ [IntKind.u8.wrap x23])).length c27)] ?_
   refine x_end rfl ?_
   refine k_block ?_
   refine k_then ?_
   refine c_plain ?_
   refine x_u 2 [(61, Vi (IntKind.i64.wrap (t52__s52_l21 + 1))), (52, Vi (IntKind.i64.wrap (t52__s52_l21 + 1)))] ?_
   refine x_end rfl ?_
   have hx := some_inj h
   subst hx
   exact k_then ⟨(m21, (d9_l21 ++ [IntKind.u8.wrap x23]), IntKind.i64.wrap (t52__s52_l21 + 1), a27, c27), ⟨rfl, rfl, rfl, rfl, trivial⟩, ⟨hn21, hev, hms, hfr, ho8, hs_p0_1⟩, Nat.lt_succ_self _⟩
 refine c_exit ?_
 refine k_then_exit ?_
 have hx := some_inj h
 subst hx
 have hy := some_inj hn21
 subst hy
 replace h := h21
 refine k_then_exit ?_
 refine k_block_in ?_
 refine k_then ?_
 refine c_norm [(5, Vl a9_l21 d9_l21 c9_l21)] ⟨rfl, trivial⟩ (fun J => ?_)
 refine c_sp ?_
 refine x_u 3 [(62, Vl a9_l21 d9_l21 c9_l21), (2, Vl a9_l21 d9_l21 c9_l21), (3, Vi 0)] ?_
 refine x_ek ?_
 refine c_ret ?_
 refine r_ret (r_vals [Vl a9_l21 d9_l21 c9_l21, Vi 0] ⟨rfl, rfl, trivial⟩ ?_)
 have hx := some_inj h
 subst hx
 have hmr : MS wl21 [blk a9_l21, M] := hms.pick [some 0, some 1] _ rfl
 have hsu : ∀ x ∈ fl [blk a9_l21, M], x ∈ fl [blk a9_l21, M] := pick_sub [some 0, some 1] _ rfl
 have hfe : FR w.heap.size [blk a9_l21] := hfr.pick [some 0] _ rfl
 exact ⟨a9_l21, c9_l21, rfl, hev, hmr, hfe, ho8.sub hsu⟩
def certificate_Make (p0_0 : List (Int × Int × Int × Int)) (p0_1 : Int) : Option (((Int × (List Int)) × (List Int)) × Int) :=
((leastcode_Least p0_0 p0_1).bind fun x6 =>
(if (x6.2 != 0) = true then
some (((0, []), []), x6.2)
else
((leastcode_Witness p0_0 p0_1).bind fun x14 =>
(if (x14.2 != 0) = true then
some (((0, []), []), x14.2)
else
some (((x6.1.1, x6.1.2), x14.1), 0)))))

theorem certificate_Make_w (a_p0_0 : Option Addr) (c_p0_0 : Nat) (p0_0 : List (Int × Int × Int × Int)) (p0_1 : Int) (r : ((Int × (List Int)) × (List Int)) × Int) (w : World) (M : List Nat) (hms : MS w [M]) (hs_p0_0 : SlR (eIt4) w (fl [M]) a_p0_0 c_p0_0 p0_0) (h : certificate_Make p0_0 p0_1 = some r) : CallVC Try.prog 10 [.agg #[Vl a_p0_0 p0_0 c_p0_0, Vi p0_1]] w fun v w' => ∃ (a0' : Option Addr), ∃ (c0' : Nat), ∃ (a2' : Option Addr), ∃ (c2' : Nat), v = .tuple #[.agg #[Vi r.1.1.1, Vl a0' r.1.1.2 c0', Vl a2' r.1.2 c2'], Vi r.2] ∧ Ev [] w w' ∧ MS w' [blk a0', blk a2', M] ∧ FR w.heap.size [blk a0', blk a2'] ∧ OwnS (eInt .i64) 3 w' (fl [blk a0', blk a2', M]) a0' c0' r.1.1.2 ∧ OwnS (eInt .i64) 3 w' (fl [blk a0', blk a2', M]) a2' c2' r.1.2 := by
 refine calls_vc hmx Try.func10 (by kernel_rfl) rfl (rs := [.cell 2 29, .tmp 3]) rfl (by kernel_rfl) (args := [.agg #[Vl a_p0_0 p0_0 c_p0_0, Vi p0_1]]) rfl ?_
 have hev : Ev [] w w := Ev.refl _ _
 have hfr : FR w.heap.size [] := FR.nil _
 refine c_sp ?_
 refine x_box (xv := .agg #[Vl a_p0_0 p0_0 c_p0_0, Vi p0_1]) rfl rfl rfl (fun b2 w2 hq2 hb2 he2 hz2 => ?_)
 replace hb2 : w2.heap[b2]? = some (.cells #[Vl a_p0_0 p0_0 c_p0_0, Vi p0_1] 25 (0, 0)) := hb2
 refine inl1 ?_
 have hst := Stp.box (ls := [M]) he2 hq2
 replace hs_p0_0 := hs_p0_0.step hst
 replace hms := hms.box he2 hq2 hb2
 replace hfr := hfr.box hev.size hq2
 replace hev := hev.ext he2
 refine x_alloc (z := .agg #[Vi 0, .slice none 0 0, .slice none 0 0]) rfl rfl (by kernel_rfl) (fun b4 w4 hq4 hb4 he4 hz4 => ?_)
 replace hb4 : w4.heap[b4]? = some (.cells #[Vi 0, .slice none 0 0, .slice none 0 0] 29 (0, 0)) := hb4
 refine inl1 ?_
 have hst := Stp.box (ls := [[b2], M]) he4 hq4
 replace hs_p0_0 := hs_p0_0.step hst
 replace hb2 := he4.box hb2 nn
 replace hms := hms.box he4 hq4 hb4
 replace hfr := hfr.box hev.size hq4
 replace hev := hev.ext he4
 refine x_u 1 [(3, Vi 0)] ?_
 refine x_ek ?_
 refine c_sp ?_
 refine x_load (xv := Vp b2 0) (.agg #[Vl a_p0_0 p0_0 c_p0_0, Vi p0_1]) rfl rfl rfl (reads_boxagg 0 [Vl a_p0_0 p0_0 c_p0_0, Vi p0_1] tagg25 hb2 nn rfl) ?_
 obtain ⟨x6, hx, h⟩ := bind_some h
 have hpk : MS w4 ([] ++ [[b4], [b2], M]) := hms.pick [some 0, some 1, some 2] _ rfl
 have hsb0 : ∀ x ∈ fl ([] ++ [[b4], [b2], M]), x ∈ fl [[b4], [b2], M] := pick_sub [some 0, some 1, some 2] _ rfl
 have hsb : ∀ x ∈ fl ([] ++ [(fl [[b4], [b2], M])]), x ∈ fl [[b4], [b2], M] := fun x hx => hsb0 x (fl_unfold x hx)
 have hcall := leastcode_Least_w a_p0_0 c_p0_0 p0_0 p0_1 _ w4 (fl [[b4], [b2], M]) (MS.fold (P := []) hpk) (hs_p0_0.sub hsb) hx
 refine x_call 29 #[] #[] [.agg #[Vl a_p0_0 p0_0 c_p0_0, Vi p0_1]] _ rfl rfl rfl rfl hcall ?_
 rintro v w7 ⟨a0_7, c0_7, rfl, he7, hmn7, hfn7, hf7_1⟩
 clear hcall hx
 refine inl1 ?_
 have hpk2 : MS w4 ([] ++ [[b4], [b2], M]) := hms.pick [some 0, some 1, some 2] _ rfl
 have hsb2 : ∀ x ∈ fl ([] ++ [[b4], [b2], M]), x ∈ fl [[b4], [b2], M] := pick_sub [some 0, some 1, some 2] _ rfl
 have hst0 := Stp.call (LS := [[b4], [b2], M]) (res := [blk a0_7]) (par := []) (R := [[b4], [b2], M]) he7 (fun b hb => hsb2 b (fl_left' (P := []) b hb)) hfn7 (NP.init _ _) (fun x hx => hsb2 x (fl_right' (P := []) x hx))
 have hsn : ∀ x ∈ fl [blk a0_7, [b4], [b2], M], x ∈ fl ([blk a0_7] ++ ([] ++ [[b4], [b2], M])) := pick_sub [some 0, some 1, some 2, some 3] _ rfl
 have hst := hst0.res hsn
 replace hs_p0_0 := hs_p0_0.step hst
 replace hb2 := he7.box hb2 ((MS.outs (P := []) hpk2 1 rfl) _ mem1)
 replace hb4 := he7.box hb4 ((MS.outs (P := []) hpk2 0 rfl) _ mem1)
 replace hms : MS w7 [blk a0_7, [b4], [b2], M] := (MS.call (P := []) (R := [[b4], [b2], M]) (res := [blk a0_7]) (par := []) hpk2 he7 hmn7 hfn7 (NP.init _ _)).pick [some 0, some 1, some 2, some 3] _ rfl
 have hfr2 : FR w.heap.size [blk a0_7, [b4], [b2]] := (FR.cons (fun b hb => Nat.le_trans hev.size (hfn7.at 0 rfl b hb)) (FR.cons (hfr.at 0 rfl) (FR.cons (hfr.at 1 rfl) (FR.nil _))))
 replace hev := hev.ext he7
 replace hfr := hfr2
 clear hfr2
 replace hf7_1 := OwnS.plain (M' := fl [blk a0_7, [b4], [b2], M]) (plain_int _) hf7_1
 clear hpk hsb hsb0 hpk2 hsb2 hst0 hsn hst
 refine x_u 3 [(7, .tuple #[.agg #[Vi x6.1.1, Vl a0_7 x6.1.2 c0_7], Vi x6.2]), (10, .agg #[Vi x6.1.1, Vl a0_7 x6.1.2 c0_7]), (11, Vi x6.2)] ?_
 refine x_alloc (z := .agg #[Vi 0, .slice none 0 0]) rfl rfl (by kernel_rfl) (fun b9 w9 hq9 hb9 he9 hz9 => ?_)
 replace hb9 : w9.heap[b9]? = some (.cells #[Vi 0, .slice none 0 0] 27 (0, 0)) := hb9
 refine inl1 ?_
 have hst := Stp.box (ls := [blk a0_7, [b4], [b2], M]) he9 hq9
 replace hs_p0_0 := hs_p0_0.step hst
 replace hb2 := he9.box hb2 nn
 replace hb4 := he9.box hb4 nn
 replace hf7_1 := hf7_1.step hst he9 nn2
 replace hms := hms.box he9 hq9 hb9
 replace hfr := hfr.box hev.size hq9
 replace hev := hev.ext he9
 obtain ⟨w11, hr11, hb11, he11⟩ := store_boxagg 0 [Vi x6.1.1, Vl a0_7 x6.1.2 c0_7] #[Vi x6.1.1, Vl a0_7 x6.1.2 c0_7] tagg27 hb9 rfl rfl rfl
 refine x_store w11 (xv := Vp b9 0) (yv := .agg #[Vi x6.1.1, Vl a0_7 x6.1.2 c0_7]) rfl rfl rfl rfl hr11 ?_
 refine inl1 ?_
 have hst := Stp.ev' (ls := [[b9], blk a0_7, [b4], [b2], M]) he11 (mem_flat 0 rfl)
 replace hs_p0_0 := hs_p0_0.step hst
 replace hb2 := he11.box hb2 (hms.apart 3 0 rfl rfl rfl _ mem1)
 replace hb4 := he11.box hb4 (hms.apart 2 0 rfl rfl rfl _ mem1)
 replace hf7_1 := hf7_1.step hst he11 (hms.apart 1 0 rfl rfl rfl)
 replace hms := hms.ev he11
 replace hev := hev.then he11 (fun b hb => .inr (hfr.at 0 rfl b hb))
 replace hb9 := hb11
 refine x_u 1 [(5, Vi x6.2)] ?_
 refine x_ek ?_
 refine c_seq ?_
 refine c_sp ?_
 refine x_u 2 [(12, Vi x6.2), (13, .bool (x6.2 != 0))] ?_
 refine x_ek ?_
 refine c_if (x6.2 != 0) rfl h (fun h => ?_) (fun h => ?_)
 · refine c_sp ?_
   refine x_build (vs := []) (.agg #[Vi 0, .slice none 0 0, .slice none 0 0]) rfl rfl rfl (fun _ _ => by kernel_rfl) ?_
   refine x_u 1 [(15, Vi x6.2)] ?_
   obtain ⟨w13, hr13, hb13, he13⟩ := store_boxagg 0 [Vi 0, .slice none 0 0, .slice none 0 0] #[Vi 0, .slice none 0 0, .slice none 0 0] tagg29 hb4 rfl rfl rfl
   refine x_store w13 (xv := Vp b4 0) (yv := .agg #[Vi 0, .slice none 0 0, .slice none 0 0]) rfl rfl rfl rfl hr13 ?_
   refine inl1 ?_
   have hst := Stp.ev' (ls := [[b9], blk a0_7, [b4], [b2], M]) he13 (mem_flat 2 rfl)
   replace hs_p0_0 := hs_p0_0.step hst
   replace hb2 := he13.box hb2 (hms.apart 3 2 rfl rfl rfl _ mem1)
   replace hf7_1 := hf7_1.step hst he13 (hms.apart 1 2 rfl rfl rfl)
   replace hb9 := he13.box hb9 (hms.apart 0 2 rfl rfl rfl _ mem1)
   replace hms := hms.ev he13
   replace hev := hev.then he13 (fun b hb => .inr (hfr.at 2 rfl b hb))
   replace hb4 := hb13
   refine x_u 1 [(3, Vi x6.2)] ?_
   refine x_ek ?_
   refine c_norm [(2, Vp b4 0), (3, Vi x6.2)] ⟨rfl, rfl, trivial⟩ (fun J => ?_)
   refine c_ret ?_
   refine k_then_ret ?_
   refine r_ret (r_vals [.agg #[Vi 0, .slice none 0 0, .slice none 0 0], Vi x6.2] ⟨⟨_, rfl, loadVar_of_reads (reads_boxagg (Mo := []) 0 [Vi 0, .slice none 0 0, .slice none 0 0] tagg29 hb4 nn rfl)⟩, rfl, trivial⟩ ?_)
   have hx := some_inj h
   subst hx
   have hmr : MS w13 [blk none, blk none, M] := hms.pick [none, none, some 4] _ rfl
   have hsu : ∀ x ∈ fl [blk none, blk none, M], x ∈ fl [[b9], blk a0_7, [b4], [b2], M] := pick_sub [none, none, some 4] _ rfl
   have hfe : FR w.heap.size [blk none, blk none] := hfr.pick [none, none] _ rfl
   exact ⟨none, 0, none, 0, rfl, hev, hmr, hfe, OwnS.nil _ _ _ _, OwnS.nil _ _ _ _⟩
 refine c_skip ?_
 refine k_then ?_
 refine c_sp ?_
 refine x_load (xv := Vp b2 0) (.agg #[Vl a_p0_0 p0_0 c_p0_0, Vi p0_1]) rfl rfl rfl (reads_boxagg 0 [Vl a_p0_0 p0_0 c_p0_0, Vi p0_1] tagg25 hb2 nn rfl) ?_
 obtain ⟨x14, hx, h⟩ := bind_some h
 have hpk : MS w11 ([] ++ [[b9], blk a0_7, [b4], [b2], M]) := hms.pick [some 0, some 1, some 2, some 3, some 4] _ rfl
 have hsb0 : ∀ x ∈ fl ([] ++ [[b9], blk a0_7, [b4], [b2], M]), x ∈ fl [[b9], blk a0_7, [b4], [b2], M] := pick_sub [some 0, some 1, some 2, some 3, some 4] _ rfl
 have hsb : ∀ x ∈ fl ([] ++ [(fl [[b9], blk a0_7, [b4], [b2], M])]), x ∈ fl [[b9], blk a0_7, [b4], [b2], M] := fun x hx => hsb0 x (fl_unfold x hx)
 have hcall := leastcode_Witness_w a_p0_0 c_p0_0 p0_0 p0_1 _ w11 (fl [[b9], blk a0_7, [b4], [b2], M]) (MS.fold (P := []) hpk) (hs_p0_0.sub hsb) hx
 refine x_call 32 #[] #[] [.agg #[Vl a_p0_0 p0_0 c_p0_0, Vi p0_1]] _ rfl rfl rfl rfl hcall ?_
 rintro v w15 ⟨a0_15, c0_15, rfl, he15, hmn15, hfn15, hf15_1⟩
 clear hcall hx
 refine inl1 ?_
 have hpk2 : MS w11 ([] ++ [[b9], blk a0_7, [b4], [b2], M]) := hms.pick [some 0, some 1, some 2, some 3, some 4] _ rfl
 have hsb2 : ∀ x ∈ fl ([] ++ [[b9], blk a0_7, [b4], [b2], M]), x ∈ fl [[b9], blk a0_7, [b4], [b2], M] := pick_sub [some 0, some 1, some 2, some 3, some 4] _ rfl
 have hst0 := Stp.call (LS := [[b9], blk a0_7, [b4], [b2], M]) (res := [blk a0_15]) (par := []) (R := [[b9], blk a0_7, [b4], [b2], M]) he15 (fun b hb => hsb2 b (fl_left' (P := []) b hb)) hfn15 (NP.init _ _) (fun x hx => hsb2 x (fl_right' (P := []) x hx))
 have hsn : ∀ x ∈ fl [blk a0_15, [b9], blk a0_7, [b4], [b2], M], x ∈ fl ([blk a0_15] ++ ([] ++ [[b9], blk a0_7, [b4], [b2], M])) := pick_sub [some 0, some 1, some 2, some 3, some 4, some 5] _ rfl
 have hst := hst0.res hsn
 replace hs_p0_0 := hs_p0_0.step hst
 replace hb2 := he15.box hb2 ((MS.outs (P := []) hpk2 3 rfl) _ mem1)
 replace hb4 := he15.box hb4 ((MS.outs (P := []) hpk2 2 rfl) _ mem1)
 replace hf7_1 := hf7_1.step hst he15 (MS.outs (P := []) hpk2 1 rfl)
 replace hb9 := he15.box hb9 ((MS.outs (P := []) hpk2 0 rfl) _ mem1)
 replace hms : MS w15 [blk a0_15, [b9], blk a0_7, [b4], [b2], M] := (MS.call (P := []) (R := [[b9], blk a0_7, [b4], [b2], M]) (res := [blk a0_15]) (par := []) hpk2 he15 hmn15 hfn15 (NP.init _ _)).pick [some 0, some 1, some 2, some 3, some 4, some 5] _ rfl
 have hfr2 : FR w.heap.size [blk a0_15, [b9], blk a0_7, [b4], [b2]] := (FR.cons (fun b hb => Nat.le_trans hev.size (hfn15.at 0 rfl b hb)) (FR.cons (hfr.at 0 rfl) (FR.cons (hfr.at 1 rfl) (FR.cons (hfr.at 2 rfl) (FR.cons (hfr.at 3 rfl) (FR.nil _))))))
 replace hev := hev.ext he15
 replace hfr := hfr2
 clear hfr2
 replace hf15_1 := OwnS.plain (M' := fl [blk a0_15, [b9], blk a0_7, [b4], [b2], M]) (plain_int _) hf15_1
 clear hpk hsb hsb0 hpk2 hsb2 hst0 hsn hst
 refine x_u 5 [(16, .tuple #[Vl a0_15 x14.1 c0_15, Vi x14.2]), (19, Vl a0_15 x14.1 c0_15), (20, Vi x14.2), (6, Vl a0_15 x14.1 c0_15), (5, Vi x14.2)] ?_
 refine x_ek ?_
 refine c_norm [(2, Vp b4 0), (4, Vp b9 0), (5, Vi x14.2), (6, Vl a0_15 x14.1 c0_15)] ⟨rfl, rfl, rfl, rfl, trivial⟩ (fun J => ?_)
 refine c_seq ?_
 refine c_sp ?_
 refine x_u 2 [(21, Vi x14.2), (22, .bool (x14.2 != 0))] ?_
 refine x_ek ?_
 refine c_if (x14.2 != 0) rfl h (fun h => ?_) (fun h => ?_)
 · refine c_sp ?_
   refine x_build (vs := []) (.agg #[Vi 0, .slice none 0 0, .slice none 0 0]) rfl rfl rfl (fun _ _ => by kernel_rfl) ?_
   refine x_u 1 [(24, Vi x14.2)] ?_
   obtain ⟨w17, hr17, hb17, he17⟩ := store_boxagg 0 [Vi 0, .slice none 0 0, .slice none 0 0] #[Vi 0, .slice none 0 0, .slice none 0 0] tagg29 hb4 rfl rfl rfl
   refine x_store w17 (xv := Vp b4 0) (yv := .agg #[Vi 0, .slice none 0 0, .slice none 0 0]) rfl rfl rfl rfl hr17 ?_
   refine inl1 ?_
   have hst := Stp.ev' (ls := [blk a0_15, [b9], blk a0_7, [b4], [b2], M]) he17 (mem_flat 3 rfl)
   replace hs_p0_0 := hs_p0_0.step hst
   replace hb2 := he17.box hb2 (hms.apart 4 3 rfl rfl rfl _ mem1)
   replace hf7_1 := hf7_1.step hst he17 (hms.apart 2 3 rfl rfl rfl)
   replace hb9 := he17.box hb9 (hms.apart 1 3 rfl rfl rfl _ mem1)
   replace hf15_1 := hf15_1.step hst he17 (hms.apart 0 3 rfl rfl rfl)
   replace hms := hms.ev he17
   replace hev := hev.then he17 (fun b hb => .inr (hfr.at 3 rfl b hb))
   replace hb4 := hb17
   refine x_u 1 [(3, Vi x14.2)] ?_
   refine x_ek ?_
   refine c_ret ?_
   refine k_then_ret ?_
   refine r_ret (r_vals [.agg #[Vi 0, .slice none 0 0, .slice none 0 0], Vi x14.2] ⟨⟨_, rfl, loadVar_of_reads (reads_boxagg (Mo := []) 0 [Vi 0, .slice none 0 0, .slice none 0 0] tagg29 hb4 nn rfl)⟩, rfl, trivial⟩ ?_)
   have hx := some_inj h
   subst hx
   have hmr : MS w17 [blk none, blk none, M] := hms.pick [none, none, some 5] _ rfl
   have hsu : ∀ x ∈ fl [blk none, blk none, M], x ∈ fl [blk a0_15, [b9], blk a0_7, [b4], [b2], M] := pick_sub [none, none, some 5] _ rfl
   have hfe : FR w.heap.size [blk none, blk none] := hfr.pick [none, none] _ rfl
   exact ⟨none, 0, none, 0, rfl, hev, hmr, hfe, OwnS.nil _ _ _ _, OwnS.nil _ _ _ _⟩
 refine c_skip ?_
 refine k_then ?_
 refine c_sp ?_
 refine x_load (xv := Vp b9 0) (.agg #[Vi x6.1.1, Vl a0_7 x6.1.2 c0_7]) rfl rfl rfl (reads_boxagg 0 [Vi x6.1.1, Vl a0_7 x6.1.2 c0_7] tagg27 hb9 nn rfl) ?_
 refine x_u 1 [(26, Vl a0_15 x14.1 c0_15)] ?_
 refine x_build (vs := [(0, .agg #[Vi x6.1.1, Vl a0_7 x6.1.2 c0_7]), (1, Vl a0_15 x14.1 c0_15)]) (.agg #[Vi x6.1.1, Vl a0_7 x6.1.2 c0_7, Vl a0_15 x14.1 c0_15]) rfl rfl rfl (fun _ _ => by kernel_rfl) ?_
 obtain ⟨w18, hr18, hb18, he18⟩ := store_boxagg 0 [Vi x6.1.1, Vl a0_7 x6.1.2 c0_7, Vl a0_15 x14.1 c0_15] #[Vi x6.1.1, Vl a0_7 x6.1.2 c0_7, Vl a0_15 x14.1 c0_15] tagg29 hb4 rfl rfl rfl
 refine x_store w18 (xv := Vp b4 0) (yv := .agg #[Vi x6.1.1, Vl a0_7 x6.1.2 c0_7, Vl a0_15 x14.1 c0_15]) rfl rfl rfl rfl hr18 ?_
 refine inl1 ?_
 have hst := Stp.ev' (ls := [blk a0_15, [b9], blk a0_7, [b4], [b2], M]) he18 (mem_flat 3 rfl)
 replace hs_p0_0 := hs_p0_0.step hst
 replace hb2 := he18.box hb2 (hms.apart 4 3 rfl rfl rfl _ mem1)
 replace hf7_1 := hf7_1.step hst he18 (hms.apart 2 3 rfl rfl rfl)
 replace hb9 := he18.box hb9 (hms.apart 1 3 rfl rfl rfl _ mem1)
 replace hf15_1 := hf15_1.step hst he18 (hms.apart 0 3 rfl rfl rfl)
 replace hms := hms.ev he18
 replace hev := hev.then he18 (fun b hb => .inr (hfr.at 3 rfl b hb))
 replace hb4 := hb18
 refine x_u 1 [(3, Vi 0)] ?_
 refine x_ek ?_
 refine c_ret ?_
 refine r_ret (r_vals [.agg #[Vi x6.1.1, Vl a0_7 x6.1.2 c0_7, Vl a0_15 x14.1 c0_15], Vi 0] ⟨⟨_, rfl, loadVar_of_reads (reads_boxagg (Mo := []) 0 [Vi x6.1.1, Vl a0_7 x6.1.2 c0_7, Vl a0_15 x14.1 c0_15] tagg29 hb4 nn rfl)⟩, rfl, trivial⟩ ?_)
 have hx := some_inj h
 subst hx
 have hmr : MS w18 [blk a0_7, blk a0_15, M] := hms.pick [some 2, some 0, some 5] _ rfl
 have hsu : ∀ x ∈ fl [blk a0_7, blk a0_15, M], x ∈ fl [blk a0_15, [b9], blk a0_7, [b4], [b2], M] := pick_sub [some 2, some 0, some 5] _ rfl
 have hfe : FR w.heap.size [blk a0_7, blk a0_15] := hfr.pick [some 2, some 0] _ rfl
 exact ⟨a0_7, c0_7, a0_15, c0_15, rfl, hev, hmr, hfe, hf7_1.sub hsu, hf15_1.sub hsu⟩
def certificate_Check_L14 (p0_0 : List (Int × Int × Int × Int)) (p0_1 : Int) (p1_0_1 : List Int) (t24__s24_l12 : Int) (s : Int) : Option (Step Int (Int ⊕ Unit)) :=
match s with
| t30__s30_l14 =>
(if (decide (t30__s30_l14 < ((p0_0).length : Int))) = true then
((job_Relation p0_0 p0_1 t24__s24_l12 t30__s30_l14).bind fun x16 =>
(if (x16.2 != 0) = true then
some (.done (.inl x16.2))
else
(if (decide (x16.1 > 0)) = true then
((idx p1_0_1 t24__s24_l12).bind fun x19 =>
((idx p1_0_1 t30__s30_l14).bind fun x21 =>
(if (decide ((IntKind.i64.wrap ((IntKind.i64.wrap (x19 + x16.1)) - 1)) > x21)) = true then
some (.done (.inl 12))
else
some (.next (IntKind.i64.wrap (t30__s30_l14 + 1))))))
else
some (.next (IntKind.i64.wrap (t30__s30_l14 + 1))))))
else
some (.done (.inr ())))

def certificate_Check_L12 (p0_0 : List (Int × Int × Int × Int)) (p0_1 : Int) (p1_0_1 : List Int) (s : Int) : Option (Step Int (Int ⊕ Unit)) :=
match s with
| t24__s24_l12 =>
(if (decide (t24__s24_l12 < ((p0_0).length : Int))) = true then
((loop (certificate_Check_L14 p0_0 p0_1 p1_0_1 t24__s24_l12) 0).bind fun d => match d with
| (.inl t4__s4_x1400) => some (.done (.inl t4__s4_x1400))
| (.inr _) => some (.next (IntKind.i64.wrap (t24__s24_l12 + 1))))
else
some (.done (.inr ())))

def certificate_Check (p0_0 : List (Int × Int × Int × Int)) (p0_1 : Int) (p1_0_0 : Int) (p1_0_1 : List Int) (p1_1 : List Int) : Option Int :=
((rollin_Valid p0_0 p0_1 p1_0_0 p1_0_1).bind fun x9 =>
(if (x9 != 0) = true then
some x9
else
((loop (certificate_Check_L12 p0_0 p0_1 p1_0_1) 0).bind fun d => match d with
| (.inl t4__s4_x1200) => some t4__s4_x1200
| (.inr _) => ((leastcode_Bound p0_0 p0_1 p1_1).bind fun x23 =>
(if (x23.2 != 0) = true then
some x23.2
else
((code_Steps x23.1).bind fun x26 =>
(if (x26.2 != 0) = true then
some 17
else
(if (x26.1 != p1_0_0) = true then
some 17
else
some 0))))))))

theorem certificate_Check_w (a_p0_0 : Option Addr) (c_p0_0 : Nat) (p0_0 : List (Int × Int × Int × Int)) (p0_1 : Int) (p1_0_0 : Int) (a_p1_0_1 : Option Addr) (c_p1_0_1 : Nat) (p1_0_1 : List Int) (a_p1_1 : Option Addr) (c_p1_1 : Nat) (p1_1 : List Int) (r : Int) (w : World) (M : List Nat) (hms : MS w [M]) (hs_p0_0 : SlR (eIt4) w (fl [M]) a_p0_0 c_p0_0 p0_0) (hs_p1_0_1 : SlR (eInt .i64) w (fl [M]) a_p1_0_1 c_p1_0_1 p1_0_1) (hs_p1_1 : SlR (eInt .i64) w (fl [M]) a_p1_1 c_p1_1 p1_1) (h : certificate_Check p0_0 p0_1 p1_0_0 p1_0_1 p1_1 = some r) : CallVC Try.prog 14 [.agg #[Vl a_p0_0 p0_0 c_p0_0, Vi p0_1], .agg #[Vi p1_0_0, Vl a_p1_0_1 p1_0_1 c_p1_0_1, Vl a_p1_1 p1_1 c_p1_1]] w fun v w' => v = Vi r ∧ Ev [] w w' := by
 refine calls_vc hmx Try.func14 (by kernel_rfl) rfl (rs := [.tmp 4]) rfl (by kernel_rfl) (args := [.agg #[Vl a_p0_0 p0_0 c_p0_0, Vi p0_1], .agg #[Vi p1_0_0, Vl a_p1_0_1 p1_0_1 c_p1_0_1, Vl a_p1_1 p1_1 c_p1_1]]) rfl ?_
 have hev : Ev [] w w := Ev.refl _ _
 have hfr : FR w.heap.size [] := FR.nil _
 refine c_sp ?_
 refine x_box (xv := .agg #[Vl a_p0_0 p0_0 c_p0_0, Vi p0_1]) rfl rfl rfl (fun b4 w4 hq4 hb4 he4 hz4 => ?_)
 replace hb4 : w4.heap[b4]? = some (.cells #[Vl a_p0_0 p0_0 c_p0_0, Vi p0_1] 25 (0, 0)) := hb4
 refine inl1 ?_
 have hst := Stp.box (ls := [M]) he4 hq4
 replace hs_p0_0 := hs_p0_0.step hst
 replace hs_p1_0_1 := hs_p1_0_1.step hst
 replace hs_p1_1 := hs_p1_1.step hst
 replace hms := hms.box he4 hq4 hb4
 replace hfr := hfr.box hev.size hq4
 replace hev := hev.ext he4
 refine x_box (xv := .agg #[Vi p1_0_0, Vl a_p1_0_1 p1_0_1 c_p1_0_1, Vl a_p1_1 p1_1 c_p1_1]) rfl rfl rfl (fun b6 w6 hq6 hb6 he6 hz6 => ?_)
 replace hb6 : w6.heap[b6]? = some (.cells #[Vi p1_0_0, Vl a_p1_0_1 p1_0_1 c_p1_0_1, Vl a_p1_1 p1_1 c_p1_1] 29 (0, 0)) := hb6
 refine inl1 ?_
 have hst := Stp.box (ls := [[b4], M]) he6 hq6
 replace hs_p0_0 := hs_p0_0.step hst
 replace hs_p1_0_1 := hs_p1_0_1.step hst
 replace hs_p1_1 := hs_p1_1.step hst
 replace hb4 := he6.box hb4 nn
 replace hms := hms.box he6 hq6 hb6
 replace hfr := hfr.box hev.size hq6
 replace hev := hev.ext he6
 refine x_u 1 [(4, Vi 0)] ?_
 refine x_ek ?_
 refine c_seq ?_
 refine c_sp ?_
 refine x_load (xv := Vp b4 0) (.agg #[Vl a_p0_0 p0_0 c_p0_0, Vi p0_1]) rfl rfl rfl (reads_boxagg 0 [Vl a_p0_0 p0_0 c_p0_0, Vi p0_1] tagg25 hb4 nn rfl) ?_
 refine x_fieldAddr (xv := Vp b6 0) (Vp b6 0) rfl rfl rfl (reads_field tfld29_0 _ _) ?_
 refine x_load (xv := Vp b6 0) (.agg #[Vi p1_0_0, Vl a_p1_0_1 p1_0_1 c_p1_0_1]) rfl rfl rfl (reads_boxagg 0 [Vi p1_0_0, Vl a_p1_0_1 p1_0_1 c_p1_0_1] tagg27 hb6 nn rfl) ?_
 obtain ⟨x9, hx, h⟩ := bind_some h
 have hpk : MS w6 ([] ++ [[b6], [b4], M]) := hms.pick [some 0, some 1, some 2] _ rfl
 have hsb0 : ∀ x ∈ fl ([] ++ [[b6], [b4], M]), x ∈ fl [[b6], [b4], M] := pick_sub [some 0, some 1, some 2] _ rfl
 have hsb : ∀ x ∈ fl ([] ++ [(fl [[b6], [b4], M])]), x ∈ fl [[b6], [b4], M] := fun x hx => hsb0 x (fl_unfold x hx)
 have hcall := rollin_Valid_w a_p0_0 c_p0_0 p0_0 p0_1 p1_0_0 a_p1_0_1 c_p1_0_1 p1_0_1 _ w6 (fl [[b6], [b4], M]) (MS.fold (P := []) hpk) (hs_p0_0.sub hsb) (hs_p1_0_1.sub hsb) hx
 refine x_call 38 #[] #[] [.agg #[Vl a_p0_0 p0_0 c_p0_0, Vi p0_1], .agg #[Vi p1_0_0, Vl a_p1_0_1 p1_0_1 c_p1_0_1]] _ rfl rfl rfl rfl hcall ?_
 rintro v w10 ⟨rfl, he10⟩
 clear hcall hx
 refine inl1 ?_
 have hst := Stp.ext (ls := [[b6], [b4], M]) he10
 replace hs_p0_0 := hs_p0_0.step hst
 replace hs_p1_0_1 := hs_p1_0_1.step hst
 replace hs_p1_1 := hs_p1_1.step hst
 replace hb4 := he10.box hb4 nn
 replace hb6 := he10.box hb6 nn
 replace hms := hms.ev he10
 replace hev := hev.ext he10
 clear hpk hsb hsb0
 refine x_u 1 [(5, Vi x9)] ?_
 refine x_ek ?_
 refine c_sp ?_
 refine x_u 2 [(18, Vi x9), (19, .bool (x9 != 0))] ?_
 refine x_ek ?_
 refine c_if (x9 != 0) rfl h (fun h => ?_) (fun h => ?_)
 · refine c_sp ?_
   refine x_u 2 [(20, Vi x9), (4, Vi x9)] ?_
   refine x_ek ?_
   refine c_ret ?_
   refine k_then_ret ?_
   refine r_ret (r_vals [Vi x9] ⟨rfl, trivial⟩ ?_)
   have hx := some_inj h
   subst hx
   have hmr : MS w10 [M] := hms.pick [some 2] _ rfl
   have hsu : ∀ x ∈ fl [M], x ∈ fl [[b6], [b4], M] := pick_sub [some 2] _ rfl
   exact ⟨rfl, hev⟩
 refine c_skip ?_
 refine k_then ?_
 refine c_seq ?_
 refine c_sp ?_
 refine x_fieldAddr (xv := Vp b4 0) (Vp b4 0) rfl rfl rfl (reads_field tfld25_0 _ _) ?_
 refine x_load (xv := Vp b4 0) (Vl a_p0_0 p0_0 c_p0_0) rfl rfl rfl (reads_box tcell23 hb4 nn 0 _ rfl) ?_
 refine x_len (vs := [Vl a_p0_0 p0_0 c_p0_0]) (Vi ((p0_0).length : Int)) rfl rfl rfl (reads_len tsl23 _ _ _ _ _) ?_
 refine x_u 1 [(24, Vi 0)] ?_
 refine x_ek ?_
 refine c_norm [(2, Vp b4 0), (3, Vp b6 0), (23, Vi ((p0_0).length : Int)), (24, Vi 0)] ⟨rfl, rfl, rfl, rfl, trivial⟩ (fun J => ?_)
 refine c_block ?_
 have hpk : MS w10 [[b4], [b6], M] := hms.pick [some 1, some 0, some 2] _ rfl
 have hsu : ∀ x ∈ fl [[b4], [b6], M], x ∈ fl [[b6], [b4], M] := pick_sub [some 1, some 0, some 2] _ rfl
 replace hs_p0_0 := hs_p0_0.sub hsu
 replace hs_p1_0_1 := hs_p1_0_1.sub hsu
 replace hs_p1_1 := hs_p1_1.sub hsu
 replace hms := hpk
 replace hfr : FR w.heap.size [[b4], [b6]] := hfr.pick [some 1, some 0] _ rfl
 clear hpk hsu
 obtain ⟨d12, hd12, h12⟩ := bind_some h
 obtain ⟨m12, hd12⟩ := loop_some hd12
 refine c_loop (loop_rule hmx (σ := Nat × Int) (fun s => match s with | (_, t24__s24_l12) => [(2, Vp b4 0), (3, Vp b6 0), (23, Vi ((p0_0).length : Int)), (24, Vi t24__s24_l12)]) (fun s w' => match s with | (m, t24__s24_l12) => loopN (certificate_Check_L12 p0_0 p0_1 p1_0_1) m t24__s24_l12 = some d12 ∧ Ev [] w w' ∧ MS w' [[b4], [b6], M] ∧ FR w.heap.size [[b4], [b6]] ∧ SlR (eIt4) w' (fl [[b4], [b6], M]) a_p0_0 c_p0_0 p0_0 ∧ w'.heap[b4]? = some (.cells #[Vl a_p0_0 p0_0 c_p0_0, Vi p0_1] 25 (0, 0)) ∧ SlR (eInt .i64) w' (fl [[b4], [b6], M]) a_p1_0_1 c_p1_0_1 p1_0_1 ∧ SlR (eInt .i64) w' (fl [[b4], [b6], M]) a_p1_1 c_p1_1 p1_1 ∧ w'.heap[b6]? = some (.cells #[Vi p1_0_0, Vl a_p1_0_1 p1_0_1 c_p1_0_1, Vl a_p1_1 p1_1 c_p1_1] 29 (0, 0))) (fun s => s.1) (m12, 0) ⟨rfl, rfl, rfl, rfl, trivial⟩ ⟨hd12, hev, hms, hfr, hs_p0_0, hb4, hs_p1_0_1, hs_p1_1, hb6⟩ ?_)
 rintro ⟨m12, t24__s24_l12⟩ J wl12 ⟨hn12, hev, hms, hfr, hs_p0_0, hb4, hs_p1_0_1, hs_p1_1, hb6⟩
 rcases m12 with _ | m12
 · exact (loopN_zero hn12).elim
 obtain ⟨t12, h, hn12⟩ := bind_some hn12
 refine c_sp ?_
 refine x_u 1 [(25, .bool (decide (t24__s24_l12 < ((p0_0).length : Int))))] ?_
 refine x_ek ?_
 refine c_norm [(2, Vp b4 0), (3, Vp b6 0), (23, Vi ((p0_0).length : Int)), (24, Vi t24__s24_l12), (25, .bool (decide (t24__s24_l12 < ((p0_0).length : Int))))] ⟨rfl, rfl, rfl, rfl, rfl, trivial⟩ (fun J => ?_)
 refine c_seq ?_
 refine c_if (decide (t24__s24_l12 < ((p0_0).length : Int))) rfl h (fun h => ?_) (fun h => ?_)
 · refine c_skip ?_
   refine k_then ?_
   refine c_seq ?_
   refine c_block ?_
   refine c_sp ?_
   refine x_u 2 [(26, Vi t24__s24_l12), (6, Vi t24__s24_l12)] ?_
   refine x_ek ?_
   refine c_sp ?_
   refine x_fieldAddr (xv := Vp b4 0) (Vp b4 0) rfl rfl rfl (reads_field tfld25_0 _ _) ?_
   refine x_load (xv := Vp b4 0) (Vl a_p0_0 p0_0 c_p0_0) rfl rfl rfl (reads_box tcell23 hb4 nn 0 _ rfl) ?_
   refine x_len (vs := [Vl a_p0_0 p0_0 c_p0_0]) (Vi ((p0_0).length : Int)) rfl rfl rfl (reads_len tsl23 _ _ _ _ _) ?_
   refine x_u 1 [(30, Vi 0)] ?_
   refine x_ek ?_
   refine c_block ?_
   obtain ⟨d14, hd14, h14⟩ := bind_some h
   obtain ⟨m14, hd14⟩ := loop_some hd14
   refine c_loop (loop_rule hmx (σ := Nat × Int) (fun s => match s with | (_, t30__s30_l14) => [(2, Vp b4 0), (3, Vp b6 0), (6, Vi t24__s24_l12), (23, Vi ((p0_0).length : Int)), (24, Vi t24__s24_l12), (29, Vi ((p0_0).length : Int)), (30, Vi t30__s30_l14)]) (fun s w' => match s with | (m, t30__s30_l14) => loopN (certificate_Check_L14 p0_0 p0_1 p1_0_1 t24__s24_l12) m t30__s30_l14 = some d14 ∧ Ev [] w w' ∧ MS w' [[b4], [b6], M] ∧ FR w.heap.size [[b4], [b6]] ∧ SlR (eIt4) w' (fl [[b4], [b6], M]) a_p0_0 c_p0_0 p0_0 ∧ w'.heap[b4]? = some (.cells #[Vl a_p0_0 p0_0 c_p0_0, Vi p0_1] 25 (0, 0)) ∧ SlR (eInt .i64) w' (fl [[b4], [b6], M]) a_p1_0_1 c_p1_0_1 p1_0_1 ∧ SlR (eInt .i64) w' (fl [[b4], [b6], M]) a_p1_1 c_p1_1 p1_1 ∧ w'.heap[b6]? = some (.cells #[Vi p1_0_0, Vl a_p1_0_1 p1_0_1 c_p1_0_1, Vl a_p1_1 p1_1 c_p1_1] 29 (0, 0))) (fun s => s.1) (m14, 0) ⟨rfl, rfl, rfl, rfl, rfl, rfl, rfl, trivial⟩ ⟨hd14, hev, hms, hfr, hs_p0_0, hb4, hs_p1_0_1, hs_p1_1, hb6⟩ ?_)
   rintro ⟨m14, t30__s30_l14⟩ J wl14 ⟨hn14, hev, hms, hfr, hs_p0_0, hb4, hs_p1_0_1, hs_p1_1, hb6⟩
   rcases m14 with _ | m14
   · exact (loopN_zero hn14).elim
   obtain ⟨t14, h, hn14⟩ := bind_some hn14
   refine c_sp ?_
   refine x_u 1 [(31, .bool (decide (t30__s30_l14 < ((p0_0).length : Int))))] ?_
   refine x_ek ?_
   refine c_norm [(2, Vp b4 0), (3, Vp b6 0), (6, Vi t24__s24_l12), (23, Vi ((p0_0).length : Int)), (24, Vi t24__s24_l12), (29, Vi ((p0_0).length : Int)), (30, Vi t30__s30_l14), (31, .bool (decide (t30__s30_l14 < ((p0_0).length : Int))))] ⟨rfl, rfl, rfl, rfl, rfl, rfl, rfl, rfl, trivial⟩ (fun J => ?_)
   refine c_seq ?_
   refine c_if (decide (t30__s30_l14 < ((p0_0).length : Int))) rfl h (fun h => ?_) (fun h => ?_)
   · refine c_skip ?_
     refine k_then ?_
     refine c_seq ?_
     refine c_block ?_
     refine c_sp ?_
     refine x_u 2 [(32, Vi t30__s30_l14), (7, Vi t30__s30_l14)] ?_
     refine x_ek ?_
     refine c_sp ?_
     refine x_load (xv := Vp b4 0) (.agg #[Vl a_p0_0 p0_0 c_p0_0, Vi p0_1]) rfl rfl rfl (reads_boxagg 0 [Vl a_p0_0 p0_0 c_p0_0, Vi p0_1] tagg25 hb4 nn rfl) ?_
     refine x_u 2 [(35, Vi t24__s24_l12), (36, Vi t30__s30_l14)] ?_
     obtain ⟨x16, hx, h⟩ := bind_some h
     have hpk : MS wl14 ([] ++ [[b4], [b6], M]) := hms.pick [some 0, some 1, some 2] _ rfl
     have hsb0 : ∀ x ∈ fl ([] ++ [[b4], [b6], M]), x ∈ fl [[b4], [b6], M] := pick_sub [some 0, some 1, some 2] _ rfl
     have hsb : ∀ x ∈ fl ([] ++ [(fl [[b4], [b6], M])]), x ∈ fl [[b4], [b6], M] := fun x hx => hsb0 x (fl_unfold x hx)
     have hcall := job_Relation_w a_p0_0 c_p0_0 p0_0 p0_1 t24__s24_l12 t30__s30_l14 _ wl14 (fl [[b4], [b6], M]) (MS.fold (P := []) hpk) (hs_p0_0.sub hsb) hx
     refine x_call 39 #[] #[] [.agg #[Vl a_p0_0 p0_0 c_p0_0, Vi p0_1], Vi t24__s24_l12, Vi t30__s30_l14] _ rfl rfl rfl rfl hcall ?_
     rintro v w17 ⟨rfl, he17⟩
     clear hcall hx
     refine inl1 ?_
     have hst := Stp.ext (ls := [[b4], [b6], M]) he17
     replace hb4 := he17.box hb4 nn
     replace hs_p0_0 := hs_p0_0.step hst
     replace hb6 := he17.box hb6 nn
     replace hs_p1_0_1 := hs_p1_0_1.step hst
     replace hs_p1_1 := hs_p1_1.step hst
     replace hms := hms.ev he17
     replace hev := hev.ext he17
     clear hpk hsb hsb0
     refine x_u 5 [(33, .tuple #[Vi x16.1, Vi x16.2]), (38, Vi x16.1), (39, Vi x16.2), (8, Vi x16.1), (9, Vi x16.2)] ?_
     refine x_ek ?_
     refine c_seq ?_
     refine c_sp ?_
     refine x_u 2 [(40, Vi x16.2), (41, .bool (x16.2 != 0))] ?_
     refine x_ek ?_
     refine c_norm [(2, Vp b4 0), (3, Vp b6 0), (6, Vi t24__s24_l12), (7, Vi t30__s30_l14), (8, Vi x16.1), (9, Vi x16.2), (23, Vi ((p0_0).length : Int)), (24, Vi t24__s24_l12), (29, Vi ((p0_0).length : Int)), (30, Vi t30__s30_l14), (41, .bool (x16.2 != 0))] ⟨rfl, rfl, rfl, rfl, rfl, rfl, rfl, rfl, rfl, rfl, rfl, trivial⟩ (fun J => ?_)
     refine c_if (x16.2 != 0) rfl h (fun h => ?_) (fun h => ?_)
     · refine c_sp ?_
       refine x_u 2 [(42, Vi x16.2), (4, Vi x16.2)] ?_
       refine x_ek ?_
       refine c_ret ?_
       refine k_then_ret ?_
       refine k_block_ret ?_
       refine k_then_ret ?_
       have hx := some_inj h
       subst hx
       have hy := some_inj hn14
       subst hy
       replace h := h14
       refine k_then_ret ?_
       refine k_block_ret ?_
       refine k_block_ret ?_
       refine k_then_ret ?_
       have hx := some_inj h
       subst hx
       have hy := some_inj hn12
       subst hy
       replace h := h12
       refine k_then_ret ?_
       refine k_block_ret ?_
       refine k_then_ret ?_
       refine r_ret (r_vals [Vi x16.2] ⟨rfl, trivial⟩ ?_)
       have hx := some_inj h
       subst hx
       have hmr : MS w17 [M] := hms.pick [some 2] _ rfl
       have hsu : ∀ x ∈ fl [M], x ∈ fl [[b4], [b6], M] := pick_sub [some 2] _ rfl
       exact ⟨rfl, hev⟩
     refine c_skip ?_
     refine k_then ?_
     refine c_seq ?_
     refine c_drawn [] [(0, false), (1, false), (2, false), (3, false), (4, false), (5, false), (6, false), (7, false), (8, false), (9, false), (10, false), (11, false), (12, false), (13, false), (14, false), (15, false), (16, false), (17, false), (18, false), (19, false)] _ (by kernel_rfl) rfl ?_
     have hst := Stp.ext (ls := [[b4], [b6], M]) (Ev.drew w17)
     replace hb4 := (Ev.drew w17).box hb4 nn
     replace hs_p0_0 := hs_p0_0.step hst
     replace hb6 := (Ev.drew w17).box hb6 nn
     replace hs_p1_0_1 := hs_p1_0_1.step hst
     replace hs_p1_1 := hs_p1_1.step hst
     replace hms := hms.ev (Ev.drew w17)
     replace hev := hev.ext (Ev.drew w17)
     refine x_u 3 [(43, Vi x16.1), (44, .bool (decide (x16.1 > 0))), (45, .bool (decide (x16.1 > 0)))] ?_
     refine x_if 45 (decide (x16.1 > 0)) rfl h (fun h => ?_) (fun h => ?_)
     · refine x_fieldAddr (xv := Vp b6 0) (Vp b6 0) rfl rfl rfl (reads_field tfld29_0 _ _) ?_
       refine x_fieldAddr (xv := Vp b6 0) (Vp b6 1) rfl rfl rfl (reads_field tfld27_1 _ _) ?_
       refine x_load (xv := Vp b6 1) (Vl a_p1_0_1 p1_0_1 c_p1_0_1) rfl rfl rfl (reads_box tcell22 hb6 nn 1 _ rfl) ?_
       refine x_u 1 [(49, Vi t24__s24_l12)] ?_
       obtain ⟨x19, hx19, h⟩ := bind_some h
       obtain ⟨ad19, cs19, hr19, hc19, hR⟩ := reads_index (Mo := []) tsl22 hs_p1_0_1 hx19
       obtain rfl := hR
       refine x_indexAddr (xv := Vl a_p1_0_1 p1_0_1 c_p1_0_1) (yv := Vi t24__s24_l12) (.pointer (some ad19)) rfl rfl rfl rfl hr19 ?_
       refine x_load (xv := .pointer (some ad19)) (Vi x19) rfl rfl rfl (reads_cell0 tcell3 hc19 (fun _ h => by cases h)) ?_
       refine x_u 3 [(52, Vi x16.1), (53, Vi (IntKind.i64.wrap (x19 + x16.1))), (54, Vi (IntKind.i64.wrap ((IntKind.i64.wrap (x19 + x16.1)) - 1)))] ?_
       refine x_fieldAddr (xv := Vp b6 0) (Vp b6 0) rfl rfl rfl (reads_field tfld29_0 _ _) ?_
       refine x_fieldAddr (xv := Vp b6 0) (Vp b6 1) rfl rfl rfl (reads_field tfld27_1 _ _) ?_
       refine x_load (xv := Vp b6 1) (Vl a_p1_0_1 p1_0_1 c_p1_0_1) rfl rfl rfl (reads_box tcell22 hb6 nn 1 _ rfl) ?_
       refine x_u 1 [(58, Vi t30__s30_l14)] ?_
       obtain ⟨x21, hx21, h⟩ := bind_some h
       obtain ⟨ad21, cs21, hr21, hc21, hR⟩ := reads_index (Mo := []) tsl22 hs_p1_0_1 hx21
       obtain rfl := hR
       refine x_indexAddr (xv := Vl a_p1_0_1 p1_0_1 c_p1_0_1) (yv := Vi t30__s30_l14) (.pointer (some ad21)) rfl rfl rfl rfl hr21 ?_
       refine x_load (xv := .pointer (some ad21)) (Vi x21) rfl rfl rfl (reads_cell0 tcell3 hc21 (fun _ h => by cases h)) ?_
       refine x_u 2 [(61, .bool (decide ((IntKind.i64.wrap ((IntKind.i64.wrap (x19 + x16.1)) - 1)) > x21))), (62, .bool (decide ((IntKind.i64.wrap ((IntKind.i64.wrap (x19 + x16.1)) - 1)) > x21)))] ?_
       refine x_ek ?_
       refine c_norm [(2, Vp b4 0), (3, Vp b6 0), (6, Vi t24__s24_l12), (23, Vi ((p0_0).length : Int)), (24, Vi t24__s24_l12), (29, Vi ((p0_0).length : Int)), (30, Vi t30__s30_l14), (62, .bool (decide ((IntKind.i64.wrap ((IntKind.i64.wrap (x19 + x16.1)) - 1)) > x21)))] ⟨rfl, rfl, rfl, rfl, rfl, rfl, rfl, rfl, trivial⟩ (fun J => ?_)
       refine c_if (decide ((IntKind.i64.wrap ((IntKind.i64.wrap (x19 + x16.1)) - 1)) > x21)) rfl h (fun h => ?_) (fun h => ?_)
       · refine c_sp ?_
         refine x_u 1 [(4, Vi 12)] ?_
         refine x_ek ?_
         refine c_ret ?_
         refine k_block_ret ?_
         refine k_then_ret ?_
         have hx := some_inj h
         subst hx
         have hy := some_inj hn14
         subst hy
         replace h := h14
         refine k_then_ret ?_
         refine k_block_ret ?_
         refine k_block_ret ?_
         refine k_then_ret ?_
         have hx := some_inj h
         subst hx
         have hy := some_inj hn12
         subst hy
         replace h := h12
         refine k_then_ret ?_
         refine k_block_ret ?_
         refine k_then_ret ?_
         refine r_ret (r_vals [Vi 12] ⟨rfl, trivial⟩ ?_)
         have hx := some_inj h
         subst hx
         have hmr : MS (w17).drew [M] := hms.pick [some 2] _ rfl
         have hsu : ∀ x ∈ fl [M], x ∈ fl [[b4], [b6], M] := pick_sub [some 2] _ rfl
         exact ⟨rfl, hev⟩
       refine c_skip ?_
       refine k_block ?_
       refine k_then ?_
       refine c_plain ?_
       refine x_u 2 [(63, Vi (IntKind.i64.wrap (t30__s30_l14 + 1))), (30, Vi (IntKind.i64.wrap (t30__s30_l14 + 1)))] ?_
       refine x_end rfl ?_
       have hx := some_inj h
       subst hx
       exact k_then ⟨(m14, IntKind.i64.wrap (t30__s30_l14 + 1)), ⟨rfl, rfl, rfl, rfl, rfl, rfl, rfl, trivial⟩, ⟨hn14, hev, hms, hfr, hs_p0_0, hb4, hs_p1_0_1, hs_p1_1, hb6⟩, Nat.lt_succ_self _⟩
     refine x_u 17 [(46, undef), (47, undef), (48, undef), (49, undef), (50, undef), (51, undef), (52, undef), (53, undef), (54, undef), (55, undef), (56, undef), (57, undef), (58, undef), (59, undef), (60, undef), (61, undef), (62, .bool false)] ?_
     refine x_ek ?_
     refine c_norm [(2, Vp b4 0), (3, Vp b6 0), (6, Vi t24__s24_l12), (23, Vi ((p0_0).length : Int)), (24, Vi t24__s24_l12), (29, Vi ((p0_0).length : Int)), (30, Vi t30__s30_l14), (62, .bool false)] ⟨rfl, rfl, rfl, rfl, rfl, rfl, rfl, rfl, trivial⟩ (fun J => ?_)
     refine c_false rfl ?_
     refine c_skip ?_
     refine k_block ?_
     refine k_then ?_
     refine c_plain ?_
     refine x_u 2 [(63, Vi (IntKind.i64.wrap (t30__s30_l14 + 1))), (30, Vi (IntKind.i64.wrap (t30__s30_l14 + 1)))] ?_
     refine x_end rfl ?_
     have hx := some_inj h
     subst hx
     exact k_then ⟨(m14, IntKind.i64.wrap (t30__s30_l14 + 1)), ⟨rfl, rfl, rfl, rfl, rfl, rfl, rfl, trivial⟩, ⟨hn14, hev, hms, hfr, hs_p0_0, hb4, hs_p1_0_1, hs_p1_1, hb6⟩, Nat.lt_succ_self _⟩
   refine c_exit ?_
   refine k_then_exit ?_
   have hx := some_inj h
   subst hx
   have hy := some_inj hn14
   subst hy
   replace h := h14
   refine k_then_exit ?_
   refine k_block_in ?_
   refine k_block ?_
   refine k_then ?_
   refine c_norm [(2, Vp b4 0), (3, Vp b6 0), (23, Vi ((p0_0).length : Int)), (24, Vi t24__s24_l12)] ⟨rfl, rfl, rfl, rfl, trivial⟩ (fun J => ?_)
   refine c_plain ?_
   refine x_u 2 [(64, Vi (IntKind.i64.wrap (t24__s24_l12 + 1))), (24, Vi (IntKind.i64.wrap (t24__s24_l12 + 1)))] ?_
   refine x_end rfl ?_
   have hx := some_inj h
   subst hx
   exact k_then ⟨(m12, IntKind.i64.wrap (t24__s24_l12 + 1)), ⟨rfl, rfl, rfl, rfl, trivial⟩, ⟨hn12, hev, hms, hfr, hs_p0_0, hb4, hs_p1_0_1, hs_p1_1, hb6⟩, Nat.lt_succ_self _⟩
 refine c_exit ?_
 refine k_then_exit ?_
 have hx := some_inj h
 subst hx
 have hy := some_inj hn12
 subst hy
 replace h := h12
 refine k_then_exit ?_
 refine k_block_in ?_
 refine k_then ?_
 refine c_norm [(2, Vp b4 0), (3, Vp b6 0)] ⟨rfl, rfl, trivial⟩ (fun J => ?_)
 refine c_sp ?_
 refine x_load (xv := Vp b4 0) (.agg #[Vl a_p0_0 p0_0 c_p0_0, Vi p0_1]) rfl rfl rfl (reads_boxagg 0 [Vl a_p0_0 p0_0 c_p0_0, Vi p0_1] tagg25 hb4 nn rfl) ?_
 refine x_fieldAddr (xv := Vp b6 0) (Vp b6 2) rfl rfl rfl (reads_field tfld29_1 _ _) ?_
 refine x_load (xv := Vp b6 2) (Vl a_p1_1 p1_1 c_p1_1) rfl rfl rfl (reads_box tcell22 hb6 nn 2 _ rfl) ?_
 obtain ⟨x23, hx, h⟩ := bind_some h
 have hpk : MS wl12 ([] ++ [[b4], [b6], M]) := hms.pick [some 0, some 1, some 2] _ rfl
 have hsb0 : ∀ x ∈ fl ([] ++ [[b4], [b6], M]), x ∈ fl [[b4], [b6], M] := pick_sub [some 0, some 1, some 2] _ rfl
 have hsb : ∀ x ∈ fl ([] ++ [(fl [[b4], [b6], M])]), x ∈ fl [[b4], [b6], M] := fun x hx => hsb0 x (fl_unfold x hx)
 have hcall := leastcode_Bound_w a_p0_0 c_p0_0 p0_0 p0_1 a_p1_1 c_p1_1 p1_1 _ wl12 (fl [[b4], [b6], M]) (MS.fold (P := []) hpk) (hs_p0_0.sub hsb) (hs_p1_1.sub hsb) hx
 refine x_call 40 #[] #[] [.agg #[Vl a_p0_0 p0_0 c_p0_0, Vi p0_1], Vl a_p1_1 p1_1 c_p1_1] _ rfl rfl rfl rfl hcall ?_
 rintro v w24 ⟨rfl, he24⟩
 clear hcall hx
 refine inl1 ?_
 have hst := Stp.ext (ls := [[b4], [b6], M]) he24
 replace hb4 := he24.box hb4 nn
 replace hs_p0_0 := hs_p0_0.step hst
 replace hb6 := he24.box hb6 nn
 replace hs_p1_0_1 := hs_p1_0_1.step hst
 replace hs_p1_1 := hs_p1_1.step hst
 replace hms := hms.ev he24
 replace hev := hev.ext he24
 clear hpk hsb hsb0
 refine x_u 5 [(65, .tuple #[Vi x23.1, Vi x23.2]), (70, Vi x23.1), (71, Vi x23.2), (10, Vi x23.1), (11, Vi x23.2)] ?_
 refine x_ek ?_
 refine c_seq ?_
 refine c_sp ?_
 refine x_u 2 [(72, Vi x23.2), (73, .bool (x23.2 != 0))] ?_
 refine x_ek ?_
 refine c_if (x23.2 != 0) rfl h (fun h => ?_) (fun h => ?_)
 · refine c_sp ?_
   refine x_u 2 [(74, Vi x23.2), (4, Vi x23.2)] ?_
   refine x_ek ?_
   refine c_norm [(4, Vi x23.2)] ⟨rfl, trivial⟩ (fun J => ?_)
   refine c_ret ?_
   refine k_then_ret ?_
   refine r_ret (r_vals [Vi x23.2] ⟨rfl, trivial⟩ ?_)
   have hx := some_inj h
   subst hx
   have hmr : MS w24 [M] := hms.pick [some 2] _ rfl
   have hsu : ∀ x ∈ fl [M], x ∈ fl [[b4], [b6], M] := pick_sub [some 2] _ rfl
   exact ⟨rfl, hev⟩
 refine c_skip ?_
 refine k_then ?_
 refine c_seq ?_
 refine c_sp ?_
 refine x_u 1 [(76, Vi x23.1)] ?_
 obtain ⟨x26, hx, h⟩ := bind_some h
 have hcall := code_Steps_w x23.1 _ w24 hx
 refine x_call 41 #[] #[] [Vi x23.1] _ rfl rfl rfl rfl hcall ?_
 rintro v w27 ⟨rfl, he27⟩
 clear hcall hx
 refine inl1 ?_
 have hst := Stp.ext (ls := [[b4], [b6], M]) he27
 replace hb4 := he27.box hb4 nn
 replace hs_p0_0 := hs_p0_0.step hst
 replace hb6 := he27.box hb6 nn
 replace hs_p1_0_1 := hs_p1_0_1.step hst
 replace hs_p1_1 := hs_p1_1.step hst
 replace hms := hms.ev he27
 replace hev := hev.ext he27
 refine x_u 5 [(75, .tuple #[Vi x26.1, Vi x26.2]), (78, Vi x26.1), (79, Vi x26.2), (12, Vi x26.1), (13, Vi x26.2)] ?_
 refine x_ek ?_
 refine c_norm [(3, Vp b6 0), (12, Vi x26.1), (13, Vi x26.2)] ⟨rfl, rfl, rfl, trivial⟩ (fun J => ?_)
 refine c_sp ?_
 refine x_u 3 [(80, Vi x26.2), (81, .bool (x26.2 != 0)), (82, .bool (x26.2 != 0))] ?_
 refine x_if 82 (x26.2 != 0) rfl h (fun h => ?_) (fun h => ?_)
 · refine x_u 6 [(83, undef), (84, undef), (85, undef), (86, undef), (87, undef), (88, .bool true)] ?_
   refine x_ek ?_
   refine c_true rfl ?_
   refine c_sp ?_
   refine x_u 1 [(4, Vi 17)] ?_
   refine x_ek ?_
   refine c_ret ?_
   refine k_then_ret ?_
   refine r_ret (r_vals [Vi 17] ⟨rfl, trivial⟩ ?_)
   have hx := some_inj h
   subst hx
   have hmr : MS w27 [M] := hms.pick [some 2] _ rfl
   have hsu : ∀ x ∈ fl [M], x ∈ fl [[b4], [b6], M] := pick_sub [some 2] _ rfl
   exact ⟨rfl, hev⟩
 refine x_u 1 [(83, Vi x26.1)] ?_
 refine x_fieldAddr (xv := Vp b6 0) (Vp b6 0) rfl rfl rfl (reads_field tfld29_0 _ _) ?_
 refine x_fieldAddr (xv := Vp b6 0) (Vp b6 0) rfl rfl rfl (reads_field tfld27_0 _ _) ?_
 refine x_load (xv := Vp b6 0) (Vi p1_0_0) rfl rfl rfl (reads_box tcell3 hb6 nn 0 _ rfl) ?_
 refine x_u 2 [(87, .bool (x26.1 != p1_0_0)), (88, .bool (x26.1 != p1_0_0))] ?_
 refine x_ek ?_
 refine c_if (x26.1 != p1_0_0) rfl h (fun h => ?_) (fun h => ?_)
 · refine c_sp ?_
   refine x_u 1 [(4, Vi 17)] ?_
   refine x_ek ?_
   refine c_ret ?_
   refine k_then_ret ?_
   refine r_ret (r_vals [Vi 17] ⟨rfl, trivial⟩ ?_)
   have hx := some_inj h
   subst hx
   have hmr : MS w27 [M] := hms.pick [some 2] _ rfl
   have hsu : ∀ x ∈ fl [M], x ∈ fl [[b4], [b6], M] := pick_sub [some 2] _ rfl
   exact ⟨rfl, hev⟩
 refine c_skip ?_
 refine k_then ?_
 refine c_sp ?_
 refine x_u 1 [(4, Vi 0)] ?_
 refine x_ek ?_
 refine c_ret ?_
 refine r_ret (r_vals [Vi 0] ⟨rfl, trivial⟩ ?_)
 have hx := some_inj h
 subst hx
 have hmr : MS w27 [M] := hms.pick [some 2] _ rfl
 have hsu : ∀ x ∈ fl [M], x ∈ fl [[b4], [b6], M] := pick_sub [some 2] _ rfl
 exact ⟨rfl, hev⟩
def certificate_Decode_L33 (p0 : List Int) (x9 : Int) (s : (List Int) × Int) : Option (Step ((List Int) × Int) (List Int)) :=
match s with
| (d35_l33, t95__s95_l33) =>
(if (decide (t95__s95_l33 < ((((p0.drop (Int.toNat (IntKind.i64.wrap ((IntKind.i64.wrap (2 + (IntKind.i64.wrap (2 * (IntKind.i64.wrap x9))))) + 1)))).take (Int.toNat (p0.length : Int) - Int.toNat (IntKind.i64.wrap ((IntKind.i64.wrap (2 + (IntKind.i64.wrap (2 * (IntKind.i64.wrap x9))))) + 1))))).length : Int))) = true then
((idx ((p0.drop (Int.toNat (IntKind.i64.wrap ((IntKind.i64.wrap (2 + (IntKind.i64.wrap (2 * (IntKind.i64.wrap x9))))) + 1)))).take (Int.toNat (p0.length : Int) - Int.toNat (IntKind.i64.wrap ((IntKind.i64.wrap (2 + (IntKind.i64.wrap (2 * (IntKind.i64.wrap x9))))) + 1)))) t95__s95_l33).bind fun x37 =>
(if d35_l33.length + ([IntKind.i64.wrap x37]).length ≤ 4294967296 then
some (.next ((d35_l33 ++ [IntKind.i64.wrap x37]), IntKind.i64.wrap (t95__s95_l33 + 1)))
else none))
else
some (.done d35_l33))

def certificate_Decode_L22 (p0 : List Int) (x9 : Int) (s : (List Int) × Int) : Option (Step ((List Int) × Int) (List Int)) :=
match s with
| (d24_l22, i_s9_l22) =>
(if (decide (i_s9_l22 < (IntKind.i64.wrap x9))) = true then
((idx p0 (IntKind.i64.wrap (2 + (IntKind.i64.wrap (2 * i_s9_l22))))).bind fun x26 =>
((idx p0 (IntKind.i64.wrap (3 + (IntKind.i64.wrap (2 * i_s9_l22))))).bind fun x28 =>
(if d24_l22.length + ([IntKind.i64.wrap ↑(BitVec.ofInt IntKind.i64.bits (IntKind.i64.wrap ((IntKind.i64.wrap x26) * 2 ^ (min (Int.toNat (8)) IntKind.i64.bits))) ||| BitVec.ofInt IntKind.i64.bits (IntKind.i64.wrap x28)).toNat]).length ≤ 4294967296 then
some (.next ((d24_l22 ++ [IntKind.i64.wrap ↑(BitVec.ofInt IntKind.i64.bits (IntKind.i64.wrap ((IntKind.i64.wrap x26) * 2 ^ (min (Int.toNat (8)) IntKind.i64.bits))) ||| BitVec.ofInt IntKind.i64.bits (IntKind.i64.wrap x28)).toNat]), IntKind.i64.wrap (i_s9_l22 + 1)))
else none)))
else
some (.done d24_l22))

def certificate_Decode (p0 : List Int) : Option (((Int × (List Int)) × (List Int)) × Int) :=
(if (decide (((p0).length : Int) < 2)) = true then
some (((0, []), []), 10)
else
((idx p0 1).bind fun x6 =>
(if (decide (((p0).length : Int) < (IntKind.i64.wrap (3 + (IntKind.i64.wrap (2 * (IntKind.i64.wrap x6))))))) = true then
some (((0, []), []), 10)
else
((idx p0 1).bind fun x9 =>
((idx p0 (IntKind.i64.wrap (2 + (IntKind.i64.wrap (2 * (IntKind.i64.wrap x9)))))).bind fun x11 =>
(if (decide (((p0).length : Int) < (IntKind.i64.wrap ((IntKind.i64.wrap ((IntKind.i64.wrap (2 + (IntKind.i64.wrap (2 * (IntKind.i64.wrap x9))))) + 1)) + (IntKind.i64.wrap x11))))) = true then
some (((0, []), []), 10)
else
(if (decide (((p0).length : Int) > (IntKind.i64.wrap ((IntKind.i64.wrap ((IntKind.i64.wrap (2 + (IntKind.i64.wrap (2 * (IntKind.i64.wrap x9))))) + 1)) + (IntKind.i64.wrap x11))))) = true then
some (((0, []), []), 11)
else
((idx p0 0).bind fun x16 =>
((loop (certificate_Decode_L22 p0 x9) (([] : List Int), 0)).bind fun d => match d with
| d24_x22 => (if 0 ≤ IntKind.i64.wrap ((IntKind.i64.wrap (2 + (IntKind.i64.wrap (2 * (IntKind.i64.wrap x9))))) + 1) ∧ IntKind.i64.wrap ((IntKind.i64.wrap (2 + (IntKind.i64.wrap (2 * (IntKind.i64.wrap x9))))) + 1) ≤ (p0.length : Int) ∧ (p0.length : Int) ≤ (p0.length : Int) then
((loop (certificate_Decode_L33 p0 x9) (([] : List Int), 0)).bind fun d => match d with
| d35_x33 => ((certificate_check (IntKind.i64.wrap x16) d24_x22 d35_x33).bind fun x43 =>
(if (x43 != 0) = true then
some (((0, []), []), x43)
else
some (((IntKind.i64.wrap x16, d24_x22), d35_x33), 0))))
else none))))))))))

theorem certificate_Decode_w (a_p0 : Option Addr) (c_p0 : Nat) (p0 : List Int) (r : ((Int × (List Int)) × (List Int)) × Int) (w : World) (M : List Nat) (hms : MS w [M]) (hs_p0 : SlR (eInt .u8) w (fl [M]) a_p0 c_p0 p0) (h : certificate_Decode p0 = some r) : CallVC Try.prog 22 [Vl a_p0 p0 c_p0] w fun v w' => ∃ (a0' : Option Addr), ∃ (c0' : Nat), ∃ (a2' : Option Addr), ∃ (c2' : Nat), v = .tuple #[.agg #[Vi r.1.1.1, Vl a0' r.1.1.2 c0', Vl a2' r.1.2 c2'], Vi r.2] ∧ Ev [] w w' ∧ MS w' [blk a0', blk a2', M] ∧ FR w.heap.size [blk a0', blk a2'] ∧ OwnS (eInt .i64) 3 w' (fl [blk a0', blk a2', M]) a0' c0' r.1.1.2 ∧ OwnS (eInt .i64) 3 w' (fl [blk a0', blk a2', M]) a2' c2' r.1.2 := by
 refine calls_vc hmx Try.func22 (by kernel_rfl) rfl (rs := [.cell 2 29, .tmp 3]) rfl (by kernel_rfl) (args := [Vl a_p0 p0 c_p0]) rfl ?_
 have hev : Ev [] w w := Ev.refl _ _
 have hfr : FR w.heap.size [] := FR.nil _
 refine c_sp ?_
 refine x_alloc (z := .agg #[Vi 0, .slice none 0 0, .slice none 0 0]) rfl rfl (by kernel_rfl) (fun b2 w2 hq2 hb2 he2 hz2 => ?_)
 replace hb2 : w2.heap[b2]? = some (.cells #[Vi 0, .slice none 0 0, .slice none 0 0] 29 (0, 0)) := hb2
 refine inl1 ?_
 have hst := Stp.box (ls := [M]) he2 hq2
 replace hs_p0 := hs_p0.step hst
 replace hms := hms.box he2 hq2 hb2
 replace hfr := hfr.box hev.size hq2
 replace hev := hev.ext he2
 refine x_u 1 [(3, Vi 0)] ?_
 refine x_ek ?_
 refine c_seq ?_
 refine c_sp ?_
 refine x_u 1 [(13, Vl a_p0 p0 c_p0)] ?_
 refine x_len (vs := [Vl a_p0 p0 c_p0]) (Vi ((p0).length : Int)) rfl rfl rfl (reads_len tsl46 _ _ _ _ _) ?_
 refine x_u 2 [(15, .bool (decide (((p0).length : Int) < 2))), (16, .bool (decide (((p0).length : Int) < 2)))] ?_
 refine x_if 16 (decide (((p0).length : Int) < 2)) rfl h (fun h => ?_) (fun h => ?_)
 · refine x_u 10 [(17, undef), (18, undef), (19, undef), (20, undef), (21, undef), (22, undef), (23, undef), (24, undef), (25, undef), (26, .bool true)] ?_
   refine x_ek ?_
   refine c_norm [(0, Vl a_p0 p0 c_p0), (2, Vp b2 0), (26, .bool true)] ⟨rfl, rfl, rfl, trivial⟩ (fun J => ?_)
   refine c_true rfl ?_
   refine c_sp ?_
   refine x_build (vs := []) (.agg #[Vi 0, .slice none 0 0, .slice none 0 0]) rfl rfl rfl (fun _ _ => by kernel_rfl) ?_
   obtain ⟨w5, hr5, hb5, he5⟩ := store_boxagg 0 [Vi 0, .slice none 0 0, .slice none 0 0] #[Vi 0, .slice none 0 0, .slice none 0 0] tagg29 hb2 rfl rfl rfl
   refine x_store w5 (xv := Vp b2 0) (yv := .agg #[Vi 0, .slice none 0 0, .slice none 0 0]) rfl rfl rfl rfl hr5 ?_
   refine inl1 ?_
   have hst := Stp.ev' (ls := [[b2], M]) he5 (mem_flat 0 rfl)
   replace hs_p0 := hs_p0.step hst
   replace hms := hms.ev he5
   replace hev := hev.then he5 (fun b hb => .inr (hfr.at 0 rfl b hb))
   replace hb2 := hb5
   refine x_u 1 [(3, Vi 10)] ?_
   refine x_ek ?_
   refine c_ret ?_
   refine k_then_ret ?_
   refine r_ret (r_vals [.agg #[Vi 0, .slice none 0 0, .slice none 0 0], Vi 10] ⟨⟨_, rfl, loadVar_of_reads (reads_boxagg (Mo := []) 0 [Vi 0, .slice none 0 0, .slice none 0 0] tagg29 hb2 nn rfl)⟩, rfl, trivial⟩ ?_)
   have hx := some_inj h
   subst hx
   have hmr : MS w5 [blk none, blk none, M] := hms.pick [none, none, some 1] _ rfl
   have hsu : ∀ x ∈ fl [blk none, blk none, M], x ∈ fl [[b2], M] := pick_sub [none, none, some 1] _ rfl
   have hfe : FR w.heap.size [blk none, blk none] := hfr.pick [none, none] _ rfl
   exact ⟨none, 0, none, 0, rfl, hev, hmr, hfe, OwnS.nil _ _ _ _, OwnS.nil _ _ _ _⟩
 refine x_u 1 [(17, Vl a_p0 p0 c_p0)] ?_
 refine x_len (vs := [Vl a_p0 p0 c_p0]) (Vi ((p0).length : Int)) rfl rfl rfl (reads_len tsl46 _ _ _ _ _) ?_
 refine x_u 1 [(19, Vl a_p0 p0 c_p0)] ?_
 obtain ⟨x6, hx6, h⟩ := bind_some h
 obtain ⟨ad6, cs6, hr6, hc6, hR⟩ := reads_index (Mo := []) tsl46 hs_p0 hx6
 obtain rfl := hR
 refine x_indexAddr (xv := Vl a_p0 p0 c_p0) (yv := Vi 1) (.pointer (some ad6)) rfl rfl rfl rfl hr6 ?_
 refine x_load (xv := .pointer (some ad6)) (.int .u8 x6) rfl rfl rfl (reads_cell0 tcell5 hc6 (fun _ h => by cases h)) ?_
 refine x_convert (Vi (IntKind.i64.wrap x6)) _ rfl rfl rfl (tcv5_3 x6 _) ?_
 refine inl1 ?_
 refine x_u 4 [(23, Vi (IntKind.i64.wrap (2 * (IntKind.i64.wrap x6)))), (24, Vi (IntKind.i64.wrap (3 + (IntKind.i64.wrap (2 * (IntKind.i64.wrap x6)))))), (25, .bool (decide (((p0).length : Int) < (IntKind.i64.wrap (3 + (IntKind.i64.wrap (2 * (IntKind.i64.wrap x6)))))))), (26, .bool (decide (((p0).length : Int) < (IntKind.i64.wrap (3 + (IntKind.i64.wrap (2 * (IntKind.i64.wrap x6))))))))] ?_
 refine x_ek ?_
 refine c_norm [(0, Vl a_p0 p0 c_p0), (2, Vp b2 0), (26, .bool (decide (((p0).length : Int) < (IntKind.i64.wrap (3 + (IntKind.i64.wrap (2 * (IntKind.i64.wrap x6))))))))] ⟨rfl, rfl, rfl, trivial⟩ (fun J => ?_)
 refine c_if (decide (((p0).length : Int) < (IntKind.i64.wrap (3 + (IntKind.i64.wrap (2 * (IntKind.i64.wrap x6))))))) rfl h (fun h => ?_) (fun h => ?_)
 · refine c_sp ?_
   refine x_build (vs := []) (.agg #[Vi 0, .slice none 0 0, .slice none 0 0]) rfl rfl rfl (fun _ _ => by kernel_rfl) ?_
   obtain ⟨w8, hr8, hb8, he8⟩ := store_boxagg 0 [Vi 0, .slice none 0 0, .slice none 0 0] #[Vi 0, .slice none 0 0, .slice none 0 0] tagg29 hb2 rfl rfl rfl
   refine x_store w8 (xv := Vp b2 0) (yv := .agg #[Vi 0, .slice none 0 0, .slice none 0 0]) rfl rfl rfl rfl hr8 ?_
   refine inl1 ?_
   have hst := Stp.ev' (ls := [[b2], M]) he8 (mem_flat 0 rfl)
   replace hs_p0 := hs_p0.step hst
   replace hms := hms.ev he8
   replace hev := hev.then he8 (fun b hb => .inr (hfr.at 0 rfl b hb))
   replace hb2 := hb8
   refine x_u 1 [(3, Vi 10)] ?_
   refine x_ek ?_
   refine c_ret ?_
   refine k_then_ret ?_
   refine r_ret (r_vals [.agg #[Vi 0, .slice none 0 0, .slice none 0 0], Vi 10] ⟨⟨_, rfl, loadVar_of_reads (reads_boxagg (Mo := []) 0 [Vi 0, .slice none 0 0, .slice none 0 0] tagg29 hb2 nn rfl)⟩, rfl, trivial⟩ ?_)
   have hx := some_inj h
   subst hx
   have hmr : MS w8 [blk none, blk none, M] := hms.pick [none, none, some 1] _ rfl
   have hsu : ∀ x ∈ fl [blk none, blk none, M], x ∈ fl [[b2], M] := pick_sub [none, none, some 1] _ rfl
   have hfe : FR w.heap.size [blk none, blk none] := hfr.pick [none, none] _ rfl
   exact ⟨none, 0, none, 0, rfl, hev, hmr, hfe, OwnS.nil _ _ _ _, OwnS.nil _ _ _ _⟩
 refine c_skip ?_
 refine k_then ?_
 refine c_sp ?_
 refine x_u 1 [(28, Vl a_p0 p0 c_p0)] ?_
 obtain ⟨x9, hx9, h⟩ := bind_some h
 obtain ⟨ad9, cs9, hr9, hc9, hR⟩ := reads_index (Mo := []) tsl46 hs_p0 hx9
 obtain rfl := hR
 refine x_indexAddr (xv := Vl a_p0 p0 c_p0) (yv := Vi 1) (.pointer (some ad9)) rfl rfl rfl rfl hr9 ?_
 refine x_load (xv := .pointer (some ad9)) (.int .u8 x9) rfl rfl rfl (reads_cell0 tcell5 hc9 (fun _ h => by cases h)) ?_
 refine x_convert (Vi (IntKind.i64.wrap x9)) _ rfl rfl rfl (tcv5_3 x9 _) ?_
 refine inl1 ?_
 refine x_u 1 [(4, Vi (IntKind.i64.wrap x9))] ?_
 refine x_ek ?_
 refine c_sp ?_
 refine x_u 4 [(32, Vi (IntKind.i64.wrap x9)), (33, Vi (IntKind.i64.wrap (2 * (IntKind.i64.wrap x9)))), (34, Vi (IntKind.i64.wrap (2 + (IntKind.i64.wrap (2 * (IntKind.i64.wrap x9)))))), (5, Vi (IntKind.i64.wrap (2 + (IntKind.i64.wrap (2 * (IntKind.i64.wrap x9))))))] ?_
 refine x_ek ?_
 refine c_sp ?_
 refine x_u 2 [(35, Vl a_p0 p0 c_p0), (36, Vi (IntKind.i64.wrap (2 + (IntKind.i64.wrap (2 * (IntKind.i64.wrap x9))))))] ?_
 obtain ⟨x11, hx11, h⟩ := bind_some h
 obtain ⟨ad11, cs11, hr11, hc11, hR⟩ := reads_index (Mo := []) tsl46 hs_p0 hx11
 obtain rfl := hR
 refine x_indexAddr (xv := Vl a_p0 p0 c_p0) (yv := Vi (IntKind.i64.wrap (2 + (IntKind.i64.wrap (2 * (IntKind.i64.wrap x9)))))) (.pointer (some ad11)) rfl rfl rfl rfl hr11 ?_
 refine x_load (xv := .pointer (some ad11)) (.int .u8 x11) rfl rfl rfl (reads_cell0 tcell5 hc11 (fun _ h => by cases h)) ?_
 refine x_convert (Vi (IntKind.i64.wrap x11)) _ rfl rfl rfl (tcv5_3 x11 _) ?_
 refine inl1 ?_
 refine x_u 1 [(6, Vi (IntKind.i64.wrap x11))] ?_
 refine x_ek ?_
 refine c_norm [(0, Vl a_p0 p0 c_p0), (2, Vp b2 0), (4, Vi (IntKind.i64.wrap x9)), (5, Vi (IntKind.i64.wrap (2 + (IntKind.i64.wrap (2 * (IntKind.i64.wrap x9)))))), (6, Vi (IntKind.i64.wrap x11))] ⟨rfl, rfl, rfl, rfl, rfl, trivial⟩ (fun J => ?_)
 refine c_seq ?_
 refine c_sp ?_
 refine x_u 5 [(40, Vi (IntKind.i64.wrap (2 + (IntKind.i64.wrap (2 * (IntKind.i64.wrap x9)))))), (41, Vi (IntKind.i64.wrap ((IntKind.i64.wrap (2 + (IntKind.i64.wrap (2 * (IntKind.i64.wrap x9))))) + 1))), (42, Vi (IntKind.i64.wrap x11)), (43, Vi (IntKind.i64.wrap ((IntKind.i64.wrap ((IntKind.i64.wrap (2 + (IntKind.i64.wrap (2 * (IntKind.i64.wrap x9))))) + 1)) + (IntKind.i64.wrap x11)))), (7, Vi (IntKind.i64.wrap ((IntKind.i64.wrap ((IntKind.i64.wrap (2 + (IntKind.i64.wrap (2 * (IntKind.i64.wrap x9))))) + 1)) + (IntKind.i64.wrap x11))))] ?_
 refine x_ek ?_
 refine c_block ?_
 refine c_sp ?_
 refine x_u 1 [(45, Vl a_p0 p0 c_p0)] ?_
 refine x_len (vs := [Vl a_p0 p0 c_p0]) (Vi ((p0).length : Int)) rfl rfl rfl (reads_len tsl46 _ _ _ _ _) ?_
 refine x_u 3 [(47, Vi (IntKind.i64.wrap ((IntKind.i64.wrap ((IntKind.i64.wrap (2 + (IntKind.i64.wrap (2 * (IntKind.i64.wrap x9))))) + 1)) + (IntKind.i64.wrap x11)))), (48, .bool (decide (((p0).length : Int) < (IntKind.i64.wrap ((IntKind.i64.wrap ((IntKind.i64.wrap (2 + (IntKind.i64.wrap (2 * (IntKind.i64.wrap x9))))) + 1)) + (IntKind.i64.wrap x11)))))), (44, .bool (decide (((p0).length : Int) < (IntKind.i64.wrap ((IntKind.i64.wrap ((IntKind.i64.wrap (2 + (IntKind.i64.wrap (2 * (IntKind.i64.wrap x9))))) + 1)) + (IntKind.i64.wrap x11))))))] ?_
 refine x_ek ?_
 refine c_if (decide (((p0).length : Int) < (IntKind.i64.wrap ((IntKind.i64.wrap ((IntKind.i64.wrap (2 + (IntKind.i64.wrap (2 * (IntKind.i64.wrap x9))))) + 1)) + (IntKind.i64.wrap x11))))) rfl h (fun h => ?_) (fun h => ?_)
 · refine c_sp ?_
   refine x_build (vs := []) (.agg #[Vi 0, .slice none 0 0, .slice none 0 0]) rfl rfl rfl (fun _ _ => by kernel_rfl) ?_
   obtain ⟨w14, hr14, hb14, he14⟩ := store_boxagg 0 [Vi 0, .slice none 0 0, .slice none 0 0] #[Vi 0, .slice none 0 0, .slice none 0 0] tagg29 hb2 rfl rfl rfl
   refine x_store w14 (xv := Vp b2 0) (yv := .agg #[Vi 0, .slice none 0 0, .slice none 0 0]) rfl rfl rfl rfl hr14 ?_
   refine inl1 ?_
   have hst := Stp.ev' (ls := [[b2], M]) he14 (mem_flat 0 rfl)
   replace hs_p0 := hs_p0.step hst
   replace hms := hms.ev he14
   replace hev := hev.then he14 (fun b hb => .inr (hfr.at 0 rfl b hb))
   replace hb2 := hb14
   refine x_u 1 [(3, Vi 10)] ?_
   refine x_ek ?_
   refine c_ret ?_
   refine k_block_ret ?_
   refine k_then_ret ?_
   refine r_ret (r_vals [.agg #[Vi 0, .slice none 0 0, .slice none 0 0], Vi 10] ⟨⟨_, rfl, loadVar_of_reads (reads_boxagg (Mo := []) 0 [Vi 0, .slice none 0 0, .slice none 0 0] tagg29 hb2 nn rfl)⟩, rfl, trivial⟩ ?_)
   have hx := some_inj h
   subst hx
   have hmr : MS w14 [blk none, blk none, M] := hms.pick [none, none, some 1] _ rfl
   have hsu : ∀ x ∈ fl [blk none, blk none, M], x ∈ fl [[b2], M] := pick_sub [none, none, some 1] _ rfl
   have hfe : FR w.heap.size [blk none, blk none] := hfr.pick [none, none] _ rfl
   exact ⟨none, 0, none, 0, rfl, hev, hmr, hfe, OwnS.nil _ _ _ _, OwnS.nil _ _ _ _⟩
 refine c_sp ?_
 refine x_u 1 [(51, Vl a_p0 p0 c_p0)] ?_
 refine x_len (vs := [Vl a_p0 p0 c_p0]) (Vi ((p0).length : Int)) rfl rfl rfl (reads_len tsl46 _ _ _ _ _) ?_
 refine x_u 3 [(53, Vi (IntKind.i64.wrap ((IntKind.i64.wrap ((IntKind.i64.wrap (2 + (IntKind.i64.wrap (2 * (IntKind.i64.wrap x9))))) + 1)) + (IntKind.i64.wrap x11)))), (54, .bool (decide (((p0).length : Int) > (IntKind.i64.wrap ((IntKind.i64.wrap ((IntKind.i64.wrap (2 + (IntKind.i64.wrap (2 * (IntKind.i64.wrap x9))))) + 1)) + (IntKind.i64.wrap x11)))))), (50, .bool (decide (((p0).length : Int) > (IntKind.i64.wrap ((IntKind.i64.wrap ((IntKind.i64.wrap (2 + (IntKind.i64.wrap (2 * (IntKind.i64.wrap x9))))) + 1)) + (IntKind.i64.wrap x11))))))] ?_
 refine x_ek ?_
 refine c_norm [(0, Vl a_p0 p0 c_p0), (2, Vp b2 0), (4, Vi (IntKind.i64.wrap x9)), (5, Vi (IntKind.i64.wrap (2 + (IntKind.i64.wrap (2 * (IntKind.i64.wrap x9)))))), (50, .bool (decide (((p0).length : Int) > (IntKind.i64.wrap ((IntKind.i64.wrap ((IntKind.i64.wrap (2 + (IntKind.i64.wrap (2 * (IntKind.i64.wrap x9))))) + 1)) + (IntKind.i64.wrap x11))))))] ⟨rfl, rfl, rfl, rfl, rfl, trivial⟩ (fun J => ?_)
 refine c_if (decide (((p0).length : Int) > (IntKind.i64.wrap ((IntKind.i64.wrap ((IntKind.i64.wrap (2 + (IntKind.i64.wrap (2 * (IntKind.i64.wrap x9))))) + 1)) + (IntKind.i64.wrap x11))))) rfl h (fun h => ?_) (fun h => ?_)
 · refine c_sp ?_
   refine x_build (vs := []) (.agg #[Vi 0, .slice none 0 0, .slice none 0 0]) rfl rfl rfl (fun _ _ => by kernel_rfl) ?_
   obtain ⟨w15, hr15, hb15, he15⟩ := store_boxagg 0 [Vi 0, .slice none 0 0, .slice none 0 0] #[Vi 0, .slice none 0 0, .slice none 0 0] tagg29 hb2 rfl rfl rfl
   refine x_store w15 (xv := Vp b2 0) (yv := .agg #[Vi 0, .slice none 0 0, .slice none 0 0]) rfl rfl rfl rfl hr15 ?_
   refine inl1 ?_
   have hst := Stp.ev' (ls := [[b2], M]) he15 (mem_flat 0 rfl)
   replace hs_p0 := hs_p0.step hst
   replace hms := hms.ev he15
   replace hev := hev.then he15 (fun b hb => .inr (hfr.at 0 rfl b hb))
   replace hb2 := hb15
   refine x_u 1 [(3, Vi 11)] ?_
   refine x_ek ?_
   refine c_ret ?_
   refine k_block_ret ?_
   refine k_then_ret ?_
   refine r_ret (r_vals [.agg #[Vi 0, .slice none 0 0, .slice none 0 0], Vi 11] ⟨⟨_, rfl, loadVar_of_reads (reads_boxagg (Mo := []) 0 [Vi 0, .slice none 0 0, .slice none 0 0] tagg29 hb2 nn rfl)⟩, rfl, trivial⟩ ?_)
   have hx := some_inj h
   subst hx
   have hmr : MS w15 [blk none, blk none, M] := hms.pick [none, none, some 1] _ rfl
   have hsu : ∀ x ∈ fl [blk none, blk none, M], x ∈ fl [[b2], M] := pick_sub [none, none, some 1] _ rfl
   have hfe : FR w.heap.size [blk none, blk none] := hfr.pick [none, none] _ rfl
   exact ⟨none, 0, none, 0, rfl, hev, hmr, hfe, OwnS.nil _ _ _ _, OwnS.nil _ _ _ _⟩
 refine c_skip ?_
 refine k_block ?_
 refine k_then ?_
 refine c_sp ?_
 refine x_u 1 [(56, Vl a_p0 p0 c_p0)] ?_
 obtain ⟨x16, hx16, h⟩ := bind_some h
 obtain ⟨ad16, cs16, hr16, hc16, hR⟩ := reads_index (Mo := []) tsl46 hs_p0 hx16
 obtain rfl := hR
 refine x_indexAddr (xv := Vl a_p0 p0 c_p0) (yv := Vi 0) (.pointer (some ad16)) rfl rfl rfl rfl hr16 ?_
 refine x_load (xv := .pointer (some ad16)) (.int .u8 x16) rfl rfl rfl (reads_cell0 tcell5 hc16 (fun _ h => by cases h)) ?_
 refine x_convert (Vi (IntKind.i64.wrap x16)) _ rfl rfl rfl (tcv5_3 x16 _) ?_
 refine inl1 ?_
 refine x_build (vs := [(0, Vi (IntKind.i64.wrap x16))]) (.agg #[Vi (IntKind.i64.wrap x16), .slice none 0 0]) rfl rfl rfl (fun _ _ => by kernel_rfl) ?_
 refine x_build (vs := [(0, .agg #[Vi (IntKind.i64.wrap x16), .slice none 0 0])]) (.agg #[Vi (IntKind.i64.wrap x16), .slice none 0 0, .slice none 0 0]) rfl rfl rfl (fun _ _ => by kernel_rfl) ?_
 refine x_alloc (z := .agg #[Vi 0, .slice none 0 0, .slice none 0 0]) rfl rfl (by kernel_rfl) (fun b18 w18 hq18 hb18 he18 hz18 => ?_)
 replace hb18 : w18.heap[b18]? = some (.cells #[Vi 0, .slice none 0 0, .slice none 0 0] 29 (0, 0)) := hb18
 refine inl1 ?_
 have hst := Stp.box (ls := [[b2], M]) he18 hq18
 replace hs_p0 := hs_p0.step hst
 replace hb2 := he18.box hb2 nn
 replace hc16 := hc16.step hst
 replace hms := hms.box he18 hq18 hb18
 replace hfr := hfr.box hev.size hq18
 replace hev := hev.ext he18
 obtain ⟨w20, hr20, hb20, he20⟩ := store_boxagg 0 [Vi (IntKind.i64.wrap x16), .slice none 0 0, .slice none 0 0] #[Vi (IntKind.i64.wrap x16), .slice none 0 0, .slice none 0 0] tagg29 hb18 rfl rfl rfl
 refine x_store w20 (xv := Vp b18 0) (yv := .agg #[Vi (IntKind.i64.wrap x16), .slice none 0 0, .slice none 0 0]) rfl rfl rfl rfl hr20 ?_
 refine inl1 ?_
 have hst := Stp.ev' (ls := [[b18], [b2], M]) he20 (mem_flat 0 rfl)
 replace hs_p0 := hs_p0.step hst
 replace hb2 := he20.box hb2 (hms.apart 1 0 rfl rfl rfl _ mem1)
 replace hc16 := hc16.step hst
 replace hms := hms.ev he20
 replace hev := hev.then he20 (fun b hb => .inr (hfr.at 0 rfl b hb))
 replace hb18 := hb20
 refine x_ek ?_
 refine c_seq ?_
 refine c_sp ?_
 refine x_u 1 [(9, Vi 0)] ?_
 refine x_ek ?_
 refine c_block ?_
 have hst := Stp.push (ls := [[b18], [b2], M]) (l := blk none) (Ev.refl [] w20) (fun _ h => by cases h) (fun _ h => by cases h)
 replace hs_p0 := hs_p0.step hst
 replace hb2 := (Ev.refl [] _).box hb2 nn
 replace hb18 := (Ev.refl [] _).box hb18 nn
 replace hms := hms.push (l := blk none) (Ev.refl [] _) (fun _ h => by cases h)
 replace hfr := hfr.push (l := blk none) (fun _ h => by cases h)
 have ho23 := OwnS.nil (eInt .i64) 3 w20 (fl [blk none, [b18], [b2], M])
 have hpk : MS w20 [[b2], blk none, [b18], M] := hms.pick [some 2, some 0, some 1, some 3] _ rfl
 have hsu : ∀ x ∈ fl [[b2], blk none, [b18], M], x ∈ fl [blk none, [b18], [b2], M] := pick_sub [some 2, some 0, some 1, some 3] _ rfl
 replace hs_p0 := hs_p0.sub hsu
 replace ho23 := ho23.sub hsu
 replace hms := hpk
 replace hfr : FR w.heap.size [[b2], blk none, [b18]] := hfr.pick [some 2, some 0, some 1] _ rfl
 clear hpk hsu
 obtain ⟨d22, hd22, h22⟩ := bind_some h
 obtain ⟨m22, hd22⟩ := loop_some hd22
 refine c_loop (loop_rule hmx (σ := Nat × (List Int) × Int × Option Addr × Nat) (fun s => match s with | (_, d24_l22, i_s9_l22, a24_l22, c24_l22) => [(0, Vl a_p0 p0 c_p0), (2, Vp b2 0), (4, Vi (IntKind.i64.wrap x9)), (5, Vi (IntKind.i64.wrap (2 + (IntKind.i64.wrap (2 * (IntKind.i64.wrap x9)))))), (8, Vp b18 0), (9, Vi i_s9_l22)]) (fun s w' => match s with | (m, d24_l22, i_s9_l22, a24_l22, c24_l22) => loopN (certificate_Decode_L22 p0 x9) m (d24_l22, i_s9_l22) = some d22 ∧ Ev [] w w' ∧ MS w' [[b2], blk a24_l22, [b18], M] ∧ FR w.heap.size [[b2], blk a24_l22, [b18]] ∧ SlR (eInt .u8) w' (fl [[b2], blk a24_l22, [b18], M]) a_p0 c_p0 p0 ∧ w'.heap[b2]? = some (.cells #[Vi 0, .slice none 0 0, .slice none 0 0] 29 (0, 0)) ∧ OwnS (eInt .i64) 3 w' (fl [[b2], blk a24_l22, [b18], M]) a24_l22 c24_l22 d24_l22 ∧ w'.heap[b18]? = some (.cells #[Vi (IntKind.i64.wrap x16), Vl a24_l22 d24_l22 c24_l22, .slice none 0 0] 29 (0, 0))) (fun s => s.1) (m22, ([] : List Int), 0, none, 0) ⟨rfl, rfl, rfl, rfl, rfl, rfl, trivial⟩ ⟨hd22, hev, hms, hfr, hs_p0, hb2, ho23, hb18⟩ ?_)
 rintro ⟨m22, d24_l22, i_s9_l22, a24_l22, c24_l22⟩ J wl22 ⟨hn22, hev, hms, hfr, hs_p0, hb2, hj24_l22, hb18⟩
 rcases m22 with _ | m22
 · exact (loopN_zero hn22).elim
 obtain ⟨t22, h, hn22⟩ := bind_some hn22
 refine c_seq ?_
 refine c_sp ?_
 refine x_u 3 [(62, Vi i_s9_l22), (63, Vi (IntKind.i64.wrap x9)), (64, .bool (decide (i_s9_l22 < (IntKind.i64.wrap x9))))] ?_
 refine x_ek ?_
 refine c_norm [(0, Vl a_p0 p0 c_p0), (2, Vp b2 0), (4, Vi (IntKind.i64.wrap x9)), (5, Vi (IntKind.i64.wrap (2 + (IntKind.i64.wrap (2 * (IntKind.i64.wrap x9)))))), (8, Vp b18 0), (9, Vi i_s9_l22), (64, .bool (decide (i_s9_l22 < (IntKind.i64.wrap x9))))] ⟨rfl, rfl, rfl, rfl, rfl, rfl, rfl, trivial⟩ (fun J => ?_)
 refine c_if (decide (i_s9_l22 < (IntKind.i64.wrap x9))) rfl h (fun h => ?_) (fun h => ?_)
 · refine c_skip ?_
   refine k_then ?_
   refine c_seq ?_
   refine c_block ?_
   refine c_drawnp (blk a24_l22) [(0, false), (1, false), (2, false), (3, false), (4, false), (5, false), (6, false), (7, false), (8, false), (11, false), (12, false), (13, false), (14, false), (15, false), (16, false)] (.alt 9 false (opsThen [(10, false), (17, false), (18, true), (19, false), (20, false), (21, true), (22, true), (23, true)] .stop) (.alt 17 false (opsThen [(9, false), (10, false), (18, true), (19, false), (20, false), (21, true), (22, true), (23, true)] .stop) .none_)) _ (by kernel_rfl) rfl ?_
   have hst := Stp.ext (ls := [[b2], blk a24_l22, [b18], M]) (Ev.drew wl22)
   replace hs_p0 := hs_p0.step hst
   replace hb2 := (Ev.drew wl22).box hb2 nn
   replace hb18 := (Ev.drew wl22).box hb18 nn
   replace hj24_l22 := hj24_l22.step hst (Ev.drew wl22) nn2
   replace hms := hms.ev (Ev.drew wl22)
   replace hev := hev.ext (Ev.drew wl22)
   refine x_fieldAddr (xv := Vp b18 0) (Vp b18 0) rfl rfl rfl (reads_field tfld29_0 _ _) ?_
   refine x_fieldAddr (xv := Vp b18 0) (Vp b18 1) rfl rfl rfl (reads_field tfld27_1 _ _) ?_
   refine x_load (xv := Vp b18 1) (Vl a24_l22 d24_l22 c24_l22) rfl rfl rfl (reads_box tcell22 hb18 ((hms.apart 2 1 rfl rfl rfl) _ mem1) 1 _ rfl) ?_
   refine x_u 4 [(70, Vl a_p0 p0 c_p0), (71, Vi i_s9_l22), (72, Vi (IntKind.i64.wrap (2 * i_s9_l22))), (73, Vi (IntKind.i64.wrap (2 + (IntKind.i64.wrap (2 * i_s9_l22)))))] ?_
   obtain ⟨x26, hx26, h⟩ := bind_some h
   obtain ⟨ad26, cs26, hr26, hc26, hR⟩ := reads_index (Mo := (blk a24_l22)) tsl46 hs_p0 hx26
   obtain rfl := hR
   refine x_indexAddr (xv := Vl a_p0 p0 c_p0) (yv := Vi (IntKind.i64.wrap (2 + (IntKind.i64.wrap (2 * i_s9_l22))))) (.pointer (some ad26)) rfl rfl rfl rfl hr26 ?_
   refine x_load (xv := .pointer (some ad26)) (.int .u8 x26) rfl rfl rfl (reads_cell0 tcell5 hc26 (mem_flat 1 rfl)) ?_
   refine x_u 4 [(78, Vl a_p0 p0 c_p0), (79, Vi i_s9_l22), (80, Vi (IntKind.i64.wrap (2 * i_s9_l22))), (81, Vi (IntKind.i64.wrap (3 + (IntKind.i64.wrap (2 * i_s9_l22)))))] ?_
   obtain ⟨x28, hx28, h⟩ := bind_some h
   obtain ⟨ad28, cs28, hr28, hc28, hR⟩ := reads_index (Mo := (blk a24_l22)) tsl46 hs_p0 hx28
   obtain rfl := hR
   refine x_indexAddr (xv := Vl a_p0 p0 c_p0) (yv := Vi (IntKind.i64.wrap (3 + (IntKind.i64.wrap (2 * i_s9_l22))))) (.pointer (some ad28)) rfl rfl rfl rfl hr28 ?_
   refine x_load (xv := .pointer (some ad28)) (.int .u8 x28) rfl rfl rfl (reads_cell0 tcell5 hc28 (mem_flat 1 rfl)) ?_
   refine x_end rfl ?_
   refine t_alt _ rfl ?_ ?_
   · refine x_convert (Vi (IntKind.i64.wrap x26)) _ rfl rfl rfl (tcv5_3 x26 _) ?_
     refine ⟨.inr (Ev.refl _ _), ?_⟩
     refine x_u 1 [(77, Vi (IntKind.i64.wrap ((IntKind.i64.wrap x26) * 2 ^ (min (Int.toNat (8)) IntKind.i64.bits))))] ?_
     refine x_convert (Vi (IntKind.i64.wrap x28)) _ rfl rfl rfl (tcv5_3 x28 _) ?_
     refine ⟨.inr (Ev.refl _ _), ?_⟩
     refine x_u 1 [(85, Vi (IntKind.i64.wrap ↑(BitVec.ofInt IntKind.i64.bits (IntKind.i64.wrap ((IntKind.i64.wrap x26) * 2 ^ (min (Int.toNat (8)) IntKind.i64.bits))) ||| BitVec.ofInt IntKind.i64.bits (IntKind.i64.wrap x28)).toNat))] ?_
     refine x_buildSlice (vs := [(0, Vi (IntKind.i64.wrap ↑(BitVec.ofInt IntKind.i64.bits (IntKind.i64.wrap ((IntKind.i64.wrap x26) * 2 ^ (min (Int.toNat (8)) IntKind.i64.bits))) ||| BitVec.ofInt IntKind.i64.bits (IntKind.i64.wrap x28)).toNat))]) #[Vi (IntKind.i64.wrap ↑(BitVec.ofInt IntKind.i64.bits (IntKind.i64.wrap ((IntKind.i64.wrap x26) * 2 ^ (min (Int.toNat (8)) IntKind.i64.bits))) ||| BitVec.ofInt IntKind.i64.bits (IntKind.i64.wrap x28)).toNat)] 3 rfl rfl rfl (by kernel_rfl) (fun b30 w30 hq30 hb30 he30 hz30 => ?_)
     refine ⟨.inr (he30.nil), ?_⟩
     have hms0 := hms
     have hst := Stp.ext (ls := [[b2], blk a24_l22, [b18], M]) he30
     replace hs_p0 := hs_p0.step hst
     replace hb2 := he30.box hb2 nn
     replace hb18 := he30.box hb18 nn
     replace hj24_l22 := hj24_l22.step hst he30 nn2
     replace hc26 := hc26.step hst
     replace hc28 := hc28.step hst
     replace hms := hms.ev he30
     replace hev := hev.ext he30
     have hs30 : SlR (eInt .i64) w30 (fl [[b2], blk a24_l22, [b18], M]) (Ad b30 0) 1 ([IntKind.i64.wrap ↑(BitVec.ofInt IntKind.i64.bits (IntKind.i64.wrap ((IntKind.i64.wrap x26) * 2 ^ (min (Int.toNat (8)) IntKind.i64.bits))) ||| BitVec.ofInt IntKind.i64.bits (IntKind.i64.wrap x28)).toNat]) := ro_of_box hms0 hq30 hb30 rfl rfl (cells_at (cs := [Vi (IntKind.i64.wrap ↑(BitVec.ofInt IntKind.i64.bits (IntKind.i64.wrap ((IntKind.i64.wrap x26) * 2 ^ (min (Int.toNat (8)) IntKind.i64.bits))) ||| BitVec.ofInt IntKind.i64.bits (IntKind.i64.wrap x28)).toNat)]) (CellsOf.cons (c := [Vi (IntKind.i64.wrap ↑(BitVec.ofInt IntKind.i64.bits (IntKind.i64.wrap ((IntKind.i64.wrap x26) * 2 ^ (min (Int.toNat (8)) IntKind.i64.bits))) ||| BitVec.ofInt IntKind.i64.bits (IntKind.i64.wrap x28)).toNat)]) rfl CellsOf.nil))
     clear hb30 hms0
     have hg := guard_l h
     replace h := guard_r h
     obtain ⟨a32, c32, w32, hr32, he32, hn32, hm32, hw32⟩ := own_appendN tel22 22 hj24_l22 (mem_flat 1 rfl) hs30 hg
     refine x_builtin (vs := [Vl a24_l22 d24_l22 c24_l22, .slice (Ad b30 0) ([IntKind.i64.wrap ↑(BitVec.ofInt IntKind.i64.bits (IntKind.i64.wrap ((IntKind.i64.wrap x26) * 2 ^ (min (Int.toNat (8)) IntKind.i64.bits))) ||| BitVec.ofInt IntKind.i64.bits (IntKind.i64.wrap x28)).toNat]).length 1]) _ w32 rfl rfl rfl rfl (run_value _ _ _ _ hr32) ?_
     refine ⟨.inr he32, ?_⟩
     have hst : Stp (fl [[b2], blk a24_l22, [b18], M]) w30 (fl [[b2], blk a32, [b18], M]) w32 := Stp.upd 1 he32 rfl (fun b hb => (hn32 b hb).1)
     replace hs_p0 := hs_p0.step hst
     replace hb2 := he32.box hb2 (hms.apart 0 1 rfl rfl rfl _ mem1)
     replace hb18 := he32.box hb18 (hms.apart 2 1 rfl rfl rfl _ mem1)
     replace hc26 := hc26.step hst
     replace hc28 := hc28.step hst
     replace hs30 := hs30.step hst
     replace hms : MS w32 [[b2], blk a32, [b18], M] := hms.upd 1 he32 rfl hn32
     have hfr2 : FR w.heap.size [[b2], blk a32, [b18]] := hfr.upd 1 rfl hev.size (fun b hb => (hn32 b hb).1)
     replace hev := hev.then he32 (fun b hb => .inr (hfr.at 1 rfl b hb))
     replace hfr := hfr2
     clear hfr2
     replace hj24_l22 := hw32 (fl [[b2], blk a32, [b18], M]) hst.new
     clear hw32
     refine x_fieldAddr (xv := Vp b18 0) (Vp b18 0) rfl rfl rfl (reads_field tfld29_0 _ _) ?_
     refine x_fieldAddr (xv := Vp b18 0) (Vp b18 1) rfl rfl rfl (reads_field tfld27_1 _ _) ?_
     obtain ⟨w33, hr33, hb33, he33⟩ := store_box 1 (.slice a32 ((d24_l22 ++ [IntKind.i64.wrap ↑(BitVec.ofInt IntKind.i64.bits (IntKind.i64.wrap ((IntKind.i64.wrap x26) * 2 ^ (min (Int.toNat (8)) IntKind.i64.bits))) ||| BitVec.ofInt IntKind.i64.bits (IntKind.i64.wrap x28)).toNat])).length c32) #[Vi (IntKind.i64.wrap x16), .slice a32 ((d24_l22 ++ [IntKind.i64.wrap ↑(BitVec.ofInt IntKind.i64.bits (IntKind.i64.wrap ((IntKind.i64.wrap x26) * 2 ^ (min (Int.toNat (8)) IntKind.i64.bits))) ||| BitVec.ofInt IntKind.i64.bits (IntKind.i64.wrap x28)).toNat])).length c32, .slice none 0 0] tcell22 hb18 rfl rfl rfl
     refine x_store w33 (xv := Vp b18 1) (yv := .slice a32 ((d24_l22 ++ [IntKind.i64.wrap ↑(BitVec.ofInt IntKind.i64.bits (IntKind.i64.wrap ((IntKind.i64.wrap x26) * 2 ^ (min (Int.toNat (8)) IntKind.i64.bits))) ||| BitVec.ofInt IntKind.i64.bits (IntKind.i64.wrap x28)).toNat])).length c32) rfl rfl rfl rfl hr33 ?_
     refine inl1 ?_
     have hst := Stp.ev' (ls := [[b2], blk a32, [b18], M]) he33 (mem_flat 2 rfl)
     replace hs_p0 := hs_p0.step hst
     replace hb2 := he33.box hb2 (hms.apart 0 2 rfl rfl rfl _ mem1)
     replace hj24_l22 := hj24_l22.step hst he33 (hms.apart 1 2 rfl rfl rfl)
     replace hc26 := hc26.step hst
     replace hc28 := hc28.step hst
     replace hs30 := hs30.step hst
     replace hms := hms.ev he33
     replace hev := hev.then he33 (fun b hb => .inr (hfr.at 2 rfl b hb))
     replace hb18 := hb33
     refine x_end rfl ?_
     refine t_stop ?_
     refine k_block ?_
     refine k_then ?_
     refine c_norm [(0, Vl a_p0 p0 c_p0), (2, Vp b2 0), (4, Vi (IntKind.i64.wrap x9)), (5, Vi (IntKind.i64.wrap (2 + (IntKind.i64.wrap (2 * (IntKind.i64.wrap x9)))))), (8, Vp b18 0), (9, Vi i_s9_l22)] ⟨rfl, rfl, rfl, rfl, rfl, rfl, trivial⟩ (fun J => ?_)
     refine c_plain ?_
     refine x_u 3 [(65, Vi i_s9_l22), (66, Vi (IntKind.i64.wrap (i_s9_l22 + 1))), (9, Vi (IntKind.i64.wrap (i_s9_l22 + 1)))] ?_
     refine x_end rfl ?_
     have hx := some_inj h
     subst hx
     exact k_then ⟨(m22, (d24_l22 ++ [IntKind.i64.wrap ↑(BitVec.ofInt IntKind.i64.bits (IntKind.i64.wrap ((IntKind.i64.wrap x26) * 2 ^ (min (Int.toNat (8)) IntKind.i64.bits))) ||| BitVec.ofInt IntKind.i64.bits (IntKind.i64.wrap x28)).toNat]), IntKind.i64.wrap (i_s9_l22 + 1), a32, c32), ⟨rfl, rfl, rfl, rfl, rfl, rfl, trivial⟩, ⟨hn22, hev, hms, hfr, hs_p0, hb2, hj24_l22, hb18⟩, Nat.lt_succ_self _⟩
   refine t_alt _ rfl ?_ ?_
   · refine x_convert (Vi (IntKind.i64.wrap x28)) _ rfl rfl rfl (tcv5_3 x28 _) ?_
     refine ⟨.inr (Ev.refl _ _), ?_⟩
     refine x_convert (Vi (IntKind.i64.wrap x26)) _ rfl rfl rfl (tcv5_3 x26 _) ?_
     refine ⟨.inr (Ev.refl _ _), ?_⟩
     refine x_u 2 [(77, Vi (IntKind.i64.wrap ((IntKind.i64.wrap x26) * 2 ^ (min (Int.toNat (8)) IntKind.i64.bits)))), (85, Vi (IntKind.i64.wrap ↑(BitVec.ofInt IntKind.i64.bits (IntKind.i64.wrap ((IntKind.i64.wrap x26) * 2 ^ (min (Int.toNat (8)) IntKind.i64.bits))) ||| BitVec.ofInt IntKind.i64.bits (IntKind.i64.wrap x28)).toNat))] ?_
     refine x_buildSlice (vs := [(0, Vi (IntKind.i64.wrap ↑(BitVec.ofInt IntKind.i64.bits (IntKind.i64.wrap ((IntKind.i64.wrap x26) * 2 ^ (min (Int.toNat (8)) IntKind.i64.bits))) ||| BitVec.ofInt IntKind.i64.bits (IntKind.i64.wrap x28)).toNat))]) #[Vi (IntKind.i64.wrap ↑(BitVec.ofInt IntKind.i64.bits (IntKind.i64.wrap ((IntKind.i64.wrap x26) * 2 ^ (min (Int.toNat (8)) IntKind.i64.bits))) ||| BitVec.ofInt IntKind.i64.bits (IntKind.i64.wrap x28)).toNat)] 3 rfl rfl rfl (by kernel_rfl) (fun b30 w30 hq30 hb30 he30 hz30 => ?_)
     refine ⟨.inr (he30.nil), ?_⟩
     have hms0 := hms
     have hst := Stp.ext (ls := [[b2], blk a24_l22, [b18], M]) he30
     replace hs_p0 := hs_p0.step hst
     replace hb2 := he30.box hb2 nn
     replace hb18 := he30.box hb18 nn
     replace hj24_l22 := hj24_l22.step hst he30 nn2
     replace hc26 := hc26.step hst
     replace hc28 := hc28.step hst
     replace hms := hms.ev he30
     replace hev := hev.ext he30
     have hs30 : SlR (eInt .i64) w30 (fl [[b2], blk a24_l22, [b18], M]) (Ad b30 0) 1 ([IntKind.i64.wrap ↑(BitVec.ofInt IntKind.i64.bits (IntKind.i64.wrap ((IntKind.i64.wrap x26) * 2 ^ (min (Int.toNat (8)) IntKind.i64.bits))) ||| BitVec.ofInt IntKind.i64.bits (IntKind.i64.wrap x28)).toNat]) := ro_of_box hms0 hq30 hb30 rfl rfl (cells_at (cs := [Vi (IntKind.i64.wrap ↑(BitVec.ofInt IntKind.i64.bits (IntKind.i64.wrap ((IntKind.i64.wrap x26) * 2 ^ (min (Int.toNat (8)) IntKind.i64.bits))) ||| BitVec.ofInt IntKind.i64.bits (IntKind.i64.wrap x28)).toNat)]) (CellsOf.cons (c := [Vi (IntKind.i64.wrap ↑(BitVec.ofInt IntKind.i64.bits (IntKind.i64.wrap ((IntKind.i64.wrap x26) * 2 ^ (min (Int.toNat (8)) IntKind.i64.bits))) ||| BitVec.ofInt IntKind.i64.bits (IntKind.i64.wrap x28)).toNat)]) rfl CellsOf.nil))
     clear hb30 hms0
     have hg := guard_l h
     replace h := guard_r h
     obtain ⟨a32, c32, w32, hr32, he32, hn32, hm32, hw32⟩ := own_appendN tel22 22 hj24_l22 (mem_flat 1 rfl) hs30 hg
     refine x_builtin (vs := [Vl a24_l22 d24_l22 c24_l22, .slice (Ad b30 0) ([IntKind.i64.wrap ↑(BitVec.ofInt IntKind.i64.bits (IntKind.i64.wrap ((IntKind.i64.wrap x26) * 2 ^ (min (Int.toNat (8)) IntKind.i64.bits))) ||| BitVec.ofInt IntKind.i64.bits (IntKind.i64.wrap x28)).toNat]).length 1]) _ w32 rfl rfl rfl rfl (run_value _ _ _ _ hr32) ?_
     refine ⟨.inr he32, ?_⟩
     have hst : Stp (fl [[b2], blk a24_l22, [b18], M]) w30 (fl [[b2], blk a32, [b18], M]) w32 := Stp.upd 1 he32 rfl (fun b hb => (hn32 b hb).1)
     replace hs_p0 := hs_p0.step hst
     replace hb2 := he32.box hb2 (hms.apart 0 1 rfl rfl rfl _ mem1)
     replace hb18 := he32.box hb18 (hms.apart 2 1 rfl rfl rfl _ mem1)
     replace hc26 := hc26.step hst
     replace hc28 := hc28.step hst
     replace hs30 := hs30.step hst
     replace hms : MS w32 [[b2], blk a32, [b18], M] := hms.upd 1 he32 rfl hn32
     have hfr2 : FR w.heap.size [[b2], blk a32, [b18]] := hfr.upd 1 rfl hev.size (fun b hb => (hn32 b hb).1)
     replace hev := hev.then he32 (fun b hb => .inr (hfr.at 1 rfl b hb))
     replace hfr := hfr2
     clear hfr2
     replace hj24_l22 := hw32 (fl [[b2], blk a32, [b18], M]) hst.new
     clear hw32
     refine x_fieldAddr (xv := Vp b18 0) (Vp b18 0) rfl rfl rfl (reads_field tfld29_0 _ _) ?_
     refine x_fieldAddr (xv := Vp b18 0) (Vp b18 1) rfl rfl rfl (reads_field tfld27_1 _ _) ?_
     obtain ⟨w33, hr33, hb33, he33⟩ := store_box 1 (.slice a32 ((d24_l22 ++ [IntKind.i64.wrap ↑(BitVec.ofInt IntKind.i64.bits (IntKind.i64.wrap ((IntKind.i64.wrap x26) * 2 ^ (min (Int.toNat (8)) IntKind.i64.bits))) ||| BitVec.ofInt IntKind.i64.bits (IntKind.i64.wrap x28)).toNat])).length c32) #[Vi (IntKind.i64.wrap x16), .slice a32 ((d24_l22 ++ [IntKind.i64.wrap ↑(BitVec.ofInt IntKind.i64.bits (IntKind.i64.wrap ((IntKind.i64.wrap x26) * 2 ^ (min (Int.toNat (8)) IntKind.i64.bits))) ||| BitVec.ofInt IntKind.i64.bits (IntKind.i64.wrap x28)).toNat])).length c32, .slice none 0 0] tcell22 hb18 rfl rfl rfl
     refine x_store w33 (xv := Vp b18 1) (yv := .slice a32 ((d24_l22 ++ [IntKind.i64.wrap ↑(BitVec.ofInt IntKind.i64.bits (IntKind.i64.wrap ((IntKind.i64.wrap x26) * 2 ^ (min (Int.toNat (8)) IntKind.i64.bits))) ||| BitVec.ofInt IntKind.i64.bits (IntKind.i64.wrap x28)).toNat])).length c32) rfl rfl rfl rfl hr33 ?_
     refine inl1 ?_
     have hst := Stp.ev' (ls := [[b2], blk a32, [b18], M]) he33 (mem_flat 2 rfl)
     replace hs_p0 := hs_p0.step hst
     replace hb2 := he33.box hb2 (hms.apart 0 2 rfl rfl rfl _ mem1)
     replace hj24_l22 := hj24_l22.step hst he33 (hms.apart 1 2 rfl rfl rfl)
     replace hc26 := hc26.step hst
     replace hc28 := hc28.step hst
     replace hs30 := hs30.step hst
     replace hms := hms.ev he33
     replace hev := hev.then he33 (fun b hb => .inr (hfr.at 2 rfl b hb))
     replace hb18 := hb33
     refine x_end rfl ?_
     refine t_stop ?_
     refine k_block ?_
     refine k_then ?_
     refine c_norm [(0, Vl a_p0 p0 c_p0), (2, Vp b2 0), (4, Vi (IntKind.i64.wrap x9)), (5, Vi (IntKind.i64.wrap (2 + (IntKind.i64.wrap (2 * (IntKind.i64.wrap x9)))))), (8, Vp b18 0), (9, Vi i_s9_l22)] ⟨rfl, rfl, rfl, rfl, rfl, rfl, trivial⟩ (fun J => ?_)
     refine c_plain ?_
     refine x_u 3 [(65, Vi i_s9_l22), (66, Vi (IntKind.i64.wrap (i_s9_l22 + 1))), (9, Vi (IntKind.i64.wrap (i_s9_l22 + 1)))] ?_
     refine x_end rfl ?_
     have hx := some_inj h
     subst hx
     exact k_then ⟨(m22, (d24_l22 ++ [IntKind.i64.wrap ↑(BitVec.ofInt IntKind.i64.bits (IntKind.i64.wrap ((IntKind.i64.wrap x26) * 2 ^ (min (Int.toNat (8)) IntKind.i64.bits))) ||| BitVec.ofInt IntKind.i64.bits (IntKind.i64.wrap x28)).toNat]), IntKind.i64.wrap (i_s9_l22 + 1), a32, c32), ⟨rfl, rfl, rfl, rfl, rfl, rfl, trivial⟩, ⟨hn22, hev, hms, hfr, hs_p0, hb2, hj24_l22, hb18⟩, Nat.lt_succ_self _⟩
   exact t_none
 refine c_exit ?_
 refine k_then_exit ?_
 have hx := some_inj h
 subst hx
 have hy := some_inj hn22
 subst hy
 replace h := h22
 refine k_then_exit ?_
 refine k_block_in ?_
 refine k_then ?_
 refine c_norm [(0, Vl a_p0 p0 c_p0), (2, Vp b2 0), (5, Vi (IntKind.i64.wrap (2 + (IntKind.i64.wrap (2 * (IntKind.i64.wrap x9)))))), (8, Vp b18 0)] ⟨rfl, rfl, rfl, rfl, trivial⟩ (fun J => ?_)
 refine c_seq ?_
 refine c_sp ?_
 refine x_u 3 [(90, Vl a_p0 p0 c_p0), (91, Vi (IntKind.i64.wrap (2 + (IntKind.i64.wrap (2 * (IntKind.i64.wrap x9)))))), (92, Vi (IntKind.i64.wrap ((IntKind.i64.wrap (2 + (IntKind.i64.wrap (2 * (IntKind.i64.wrap x9))))) + 1)))] ?_
 have hg := guard_l h
 replace h := guard_r h
 obtain ⟨a31, c31, hr31, hs31⟩ := SlR.sliced (P := Try.prog) (Mo := []) tsl46 hs_p0 (some (IntKind.i64.wrap ((IntKind.i64.wrap (2 + (IntKind.i64.wrap (2 * (IntKind.i64.wrap x9))))) + 1))) none hg
 replace hs31 : SlR (eInt .u8) wl22 (fl [[b2], blk a24_l22, [b18], M]) a31 c31 ((p0.drop (Int.toNat (IntKind.i64.wrap ((IntKind.i64.wrap (2 + (IntKind.i64.wrap (2 * (IntKind.i64.wrap x9))))) + 1)))).take (Int.toNat (p0.length : Int) - Int.toNat (IntKind.i64.wrap ((IntKind.i64.wrap (2 + (IntKind.i64.wrap (2 * (IntKind.i64.wrap x9))))) + 1)))) := hs31
 refine x_slice (xv := Vl a_p0 p0 c_p0) (lv := (some (Vi (IntKind.i64.wrap ((IntKind.i64.wrap (2 + (IntKind.i64.wrap (2 * (IntKind.i64.wrap x9))))) + 1))))) (hv := none) (mv := none) (.slice a31 (((p0.drop (Int.toNat (IntKind.i64.wrap ((IntKind.i64.wrap (2 + (IntKind.i64.wrap (2 * (IntKind.i64.wrap x9))))) + 1)))).take (Int.toNat (p0.length : Int) - Int.toNat (IntKind.i64.wrap ((IntKind.i64.wrap (2 + (IntKind.i64.wrap (2 * (IntKind.i64.wrap x9))))) + 1))))).length c31) rfl rfl rfl rfl rfl rfl hr31 ?_
 refine x_len (vs := [.slice a31 (((p0.drop (Int.toNat (IntKind.i64.wrap ((IntKind.i64.wrap (2 + (IntKind.i64.wrap (2 * (IntKind.i64.wrap x9))))) + 1)))).take (Int.toNat (p0.length : Int) - Int.toNat (IntKind.i64.wrap ((IntKind.i64.wrap (2 + (IntKind.i64.wrap (2 * (IntKind.i64.wrap x9))))) + 1))))).length c31]) (Vi ((((p0.drop (Int.toNat (IntKind.i64.wrap ((IntKind.i64.wrap (2 + (IntKind.i64.wrap (2 * (IntKind.i64.wrap x9))))) + 1)))).take (Int.toNat (p0.length : Int) - Int.toNat (IntKind.i64.wrap ((IntKind.i64.wrap (2 + (IntKind.i64.wrap (2 * (IntKind.i64.wrap x9))))) + 1))))).length : Int)) rfl rfl rfl (reads_len tsl46 _ _ _ _ _) ?_
 refine x_u 1 [(95, Vi 0)] ?_
 refine x_ek ?_
 refine c_block ?_
 have hst := Stp.push (ls := [[b2], blk a24_l22, [b18], M]) (l := blk none) (Ev.refl [] wl22) (fun _ h => by cases h) (fun _ h => by cases h)
 replace hb2 := (Ev.refl [] _).box hb2 nn
 replace hb18 := (Ev.refl [] _).box hb18 nn
 replace hj24_l22 := hj24_l22.step hst (Ev.refl [] _) nn2
 replace hs31 := hs31.step hst
 replace hms := hms.push (l := blk none) (Ev.refl [] _) (fun _ h => by cases h)
 replace hfr := hfr.push (l := blk none) (fun _ h => by cases h)
 have ho34 := OwnS.nil (eInt .i64) 3 wl22 (fl [blk none, [b2], blk a24_l22, [b18], M])
 have hpk : MS wl22 [[b2], blk a24_l22, blk none, [b18], M] := hms.pick [some 1, some 2, some 0, some 3, some 4] _ rfl
 have hsu : ∀ x ∈ fl [[b2], blk a24_l22, blk none, [b18], M], x ∈ fl [blk none, [b2], blk a24_l22, [b18], M] := pick_sub [some 1, some 2, some 0, some 3, some 4] _ rfl
 replace hj24_l22 := hj24_l22.sub hsu
 replace ho34 := ho34.sub hsu
 replace hs31 := hs31.sub hsu
 replace hms := hpk
 replace hfr : FR w.heap.size [[b2], blk a24_l22, blk none, [b18]] := hfr.pick [some 1, some 2, some 0, some 3] _ rfl
 clear hpk hsu
 obtain ⟨d33, hd33, h33⟩ := bind_some h
 obtain ⟨m33, hd33⟩ := loop_some hd33
 refine c_loop (loop_rule hmx (σ := Nat × (List Int) × Int × Option Addr × Nat) (fun s => match s with | (_, d35_l33, t95__s95_l33, a35_l33, c35_l33) => [(2, Vp b2 0), (8, Vp b18 0), (93, .slice a31 (((p0.drop (Int.toNat (IntKind.i64.wrap ((IntKind.i64.wrap (2 + (IntKind.i64.wrap (2 * (IntKind.i64.wrap x9))))) + 1)))).take (Int.toNat (p0.length : Int) - Int.toNat (IntKind.i64.wrap ((IntKind.i64.wrap (2 + (IntKind.i64.wrap (2 * (IntKind.i64.wrap x9))))) + 1))))).length c31), (94, Vi ((((p0.drop (Int.toNat (IntKind.i64.wrap ((IntKind.i64.wrap (2 + (IntKind.i64.wrap (2 * (IntKind.i64.wrap x9))))) + 1)))).take (Int.toNat (p0.length : Int) - Int.toNat (IntKind.i64.wrap ((IntKind.i64.wrap (2 + (IntKind.i64.wrap (2 * (IntKind.i64.wrap x9))))) + 1))))).length : Int)), (95, Vi t95__s95_l33)]) (fun s w' => match s with | (m, d35_l33, t95__s95_l33, a35_l33, c35_l33) => loopN (certificate_Decode_L33 p0 x9) m (d35_l33, t95__s95_l33) = some d33 ∧ Ev [] w w' ∧ MS w' [[b2], blk a24_l22, blk a35_l33, [b18], M] ∧ FR w.heap.size [[b2], blk a24_l22, blk a35_l33, [b18]] ∧ w'.heap[b2]? = some (.cells #[Vi 0, .slice none 0 0, .slice none 0 0] 29 (0, 0)) ∧ OwnS (eInt .i64) 3 w' (fl [[b2], blk a24_l22, blk a35_l33, [b18], M]) a24_l22 c24_l22 d24_l22 ∧ OwnS (eInt .i64) 3 w' (fl [[b2], blk a24_l22, blk a35_l33, [b18], M]) a35_l33 c35_l33 d35_l33 ∧ w'.heap[b18]? = some (.cells #[Vi (IntKind.i64.wrap x16), Vl a24_l22 d24_l22 c24_l22, Vl a35_l33 d35_l33 c35_l33] 29 (0, 0)) ∧ SlR (eInt .u8) w' (fl [[b2], blk a24_l22, blk a35_l33, [b18], M]) a31 c31 ((p0.drop (Int.toNat (IntKind.i64.wrap ((IntKind.i64.wrap (2 + (IntKind.i64.wrap (2 * (IntKind.i64.wrap x9))))) + 1)))).take (Int.toNat (p0.length : Int) - Int.toNat (IntKind.i64.wrap ((IntKind.i64.wrap (2 + (IntKind.i64.wrap (2 * (IntKind.i64.wrap x9))))) + 1))))) (fun s => s.1) (m33, ([] : List Int), 0, none, 0) ⟨rfl, rfl, rfl, rfl, rfl, trivial⟩ ⟨hd33, hev, hms, hfr, hb2, hj24_l22, ho34, hb18, hs31⟩ ?_)
 rintro ⟨m33, d35_l33, t95__s95_l33, a35_l33, c35_l33⟩ J wl33 ⟨hn33, hev, hms, hfr, hb2, hj24_l22, hj35_l33, hb18, hs31⟩
 rcases m33 with _ | m33
 · exact (loopN_zero hn33).elim
 obtain ⟨t33, h, hn33⟩ := bind_some hn33
 refine c_sp ?_
 refine x_u 1 [(96, .bool (decide (t95__s95_l33 < ((((p0.drop (Int.toNat (IntKind.i64.wrap ((IntKind.i64.wrap (2 + (IntKind.i64.wrap (2 * (IntKind.i64.wrap x9))))) + 1)))).take (Int.toNat (p0.length : Int) - Int.toNat (IntKind.i64.wrap ((IntKind.i64.wrap (2 + (IntKind.i64.wrap (2 * (IntKind.i64.wrap x9))))) + 1))))).length : Int))))] ?_
 refine x_ek ?_
 refine c_norm [(2, Vp b2 0), (8, Vp b18 0), (93, .slice a31 (((p0.drop (Int.toNat (IntKind.i64.wrap ((IntKind.i64.wrap (2 + (IntKind.i64.wrap (2 * (IntKind.i64.wrap x9))))) + 1)))).take (Int.toNat (p0.length : Int) - Int.toNat (IntKind.i64.wrap ((IntKind.i64.wrap (2 + (IntKind.i64.wrap (2 * (IntKind.i64.wrap x9))))) + 1))))).length c31), (94, Vi ((((p0.drop (Int.toNat (IntKind.i64.wrap ((IntKind.i64.wrap (2 + (IntKind.i64.wrap (2 * (IntKind.i64.wrap x9))))) + 1)))).take (Int.toNat (p0.length : Int) - Int.toNat (IntKind.i64.wrap ((IntKind.i64.wrap (2 + (IntKind.i64.wrap (2 * (IntKind.i64.wrap x9))))) + 1))))).length : Int)), (95, Vi t95__s95_l33), (96, .bool (decide (t95__s95_l33 < ((((p0.drop (Int.toNat (IntKind.i64.wrap ((IntKind.i64.wrap (2 + (IntKind.i64.wrap (2 * (IntKind.i64.wrap x9))))) + 1)))).take (Int.toNat (p0.length : Int) - Int.toNat (IntKind.i64.wrap ((IntKind.i64.wrap (2 + (IntKind.i64.wrap (2 * (IntKind.i64.wrap x9))))) + 1))))).length : Int))))] ⟨rfl, rfl, rfl, rfl, rfl, rfl, trivial⟩ (fun J => ?_)
 refine c_seq ?_
 refine c_if (decide (t95__s95_l33 < ((((p0.drop (Int.toNat (IntKind.i64.wrap ((IntKind.i64.wrap (2 + (IntKind.i64.wrap (2 * (IntKind.i64.wrap x9))))) + 1)))).take (Int.toNat (p0.length : Int) - Int.toNat (IntKind.i64.wrap ((IntKind.i64.wrap (2 + (IntKind.i64.wrap (2 * (IntKind.i64.wrap x9))))) + 1))))).length : Int))) rfl h (fun h => ?_) (fun h => ?_)
 · refine c_skip ?_
   refine k_then ?_
   refine c_seq ?_
   refine c_block ?_
   refine c_sp ?_
   obtain ⟨x37, hx37, h⟩ := bind_some h
   obtain ⟨ad37, cs37, hr37, hc37, hR⟩ := reads_index (Mo := []) tsl46 hs31 hx37
   obtain rfl := hR
   refine x_indexAddr (xv := .slice a31 (((p0.drop (Int.toNat (IntKind.i64.wrap ((IntKind.i64.wrap (2 + (IntKind.i64.wrap (2 * (IntKind.i64.wrap x9))))) + 1)))).take (Int.toNat (p0.length : Int) - Int.toNat (IntKind.i64.wrap ((IntKind.i64.wrap (2 + (IntKind.i64.wrap (2 * (IntKind.i64.wrap x9))))) + 1))))).length c31) (yv := Vi t95__s95_l33) (.pointer (some ad37)) rfl rfl rfl rfl hr37 ?_
   refine x_load (xv := .pointer (some ad37)) (.int .u8 x37) rfl rfl rfl (reads_cell0 tcell5 hc37 (fun _ h => by cases h)) ?_
   refine x_u 1 [(11, .int .u8 x37)] ?_
   refine x_ek ?_
   refine c_plain ?_
   refine x_fieldAddr (xv := Vp b18 0) (Vp b18 2) rfl rfl rfl (reads_field tfld29_1 _ _) ?_
   refine x_load (xv := Vp b18 2) (Vl a35_l33 d35_l33 c35_l33) rfl rfl rfl (reads_box tcell22 hb18 nn 2 _ rfl) ?_
   refine x_u 1 [(101, .int .u8 x37)] ?_
   refine x_convert (Vi (IntKind.i64.wrap x37)) _ rfl rfl rfl (tcv5_3 x37 _) ?_
   refine inl1 ?_
   refine x_buildSlice (vs := [(0, Vi (IntKind.i64.wrap x37))]) #[Vi (IntKind.i64.wrap x37)] 3 rfl rfl rfl (by kernel_rfl) (fun b39 w39 hq39 hb39 he39 hz39 => ?_)
   refine inl1 ?_
   have hms0 := hms
   have hst := Stp.ext (ls := [[b2], blk a24_l22, blk a35_l33, [b18], M]) he39
   replace hb2 := he39.box hb2 nn
   replace hb18 := he39.box hb18 nn
   replace hj24_l22 := hj24_l22.step hst he39 nn2
   replace hj35_l33 := hj35_l33.step hst he39 nn2
   replace hs31 := hs31.step hst
   replace hms := hms.ev he39
   replace hev := hev.ext he39
   have hs39 : SlR (eInt .i64) w39 (fl [[b2], blk a24_l22, blk a35_l33, [b18], M]) (Ad b39 0) 1 ([IntKind.i64.wrap x37]) := ro_of_box hms0 hq39 hb39 rfl rfl (cells_at (cs := [Vi (IntKind.i64.wrap x37)]) (CellsOf.cons (c := [Vi (IntKind.i64.wrap x37)]) rfl CellsOf.nil))
   clear hb39 hms0
   have hg := guard_l h
   replace h := guard_r h
   obtain ⟨a41, c41, w41, hr41, he41, hn41, hm41, hw41⟩ := own_appendN tel22 22 hj35_l33 (mem_flat 2 rfl) hs39 hg
   refine x_builtin (vs := [Vl a35_l33 d35_l33 c35_l33, .slice (Ad b39 0) ([IntKind.i64.wrap x37]).length 1]) _ w41 rfl rfl rfl rfl (run_value _ _ _ _ hr41) ?_
   refine inl1 ?_
   have hst : Stp (fl [[b2], blk a24_l22, blk a35_l33, [b18], M]) w39 (fl [[b2], blk a24_l22, blk a41, [b18], M]) w41 := Stp.upd 2 he41 rfl (fun b hb => (hn41 b hb).1)
   replace hb2 := he41.box hb2 (hms.apart 0 2 rfl rfl rfl _ mem1)
   replace hb18 := he41.box hb18 (hms.apart 3 2 rfl rfl rfl _ mem1)
   replace hj24_l22 := hj24_l22.step hst he41 (hms.apart 1 2 rfl rfl rfl)
   replace hs31 := hs31.step hst
   replace hs39 := hs39.step hst
   replace hms : MS w41 [[b2], blk a24_l22, blk a41, [b18], M] := hms.upd 2 he41 rfl hn41
   have hfr2 : FR w.heap.size [[b2], blk a24_l22, blk a41, [b18]] := hfr.upd 2 rfl hev.size (fun b hb => (hn41 b hb).1)
   replace hev := hev.then he41 (fun b hb => .inr (hfr.at 2 rfl b hb))
   replace hfr := hfr2
   clear hfr2
   replace hj35_l33 := hw41 (fl [[b2], blk a24_l22, blk a41, [b18], M]) hst.new
   clear hw41
   refine x_fieldAddr (xv := Vp b18 0) (Vp b18 2) rfl rfl rfl (reads_field tfld29_1 _ _) ?_
   obtain ⟨w42, hr42, hb42, he42⟩ := store_box 2 (.slice a41 ((d35_l33 ++ [IntKind.i64.wrap x37])).length c41) #[Vi (IntKind.i64.wrap x16), Vl a24_l22 d24_l22 c24_l22, .slice a41 ((d35_l33 ++ [IntKind.i64.wrap x37])).length c41] tcell22 hb18 rfl rfl rfl
   refine x_store w42 (xv := Vp b18 2) (yv := .slice a41 ((d35_l33 ++ [IntKind.i64.wrap x37])).length c41) rfl rfl rfl rfl hr42 ?_
   refine inl1 ?_
   have hst := Stp.ev' (ls := [[b2], blk a24_l22, blk a41, [b18], M]) he42 (mem_flat 3 rfl)
   replace hb2 := he42.box hb2 (hms.apart 0 3 rfl rfl rfl _ mem1)
   replace hj24_l22 := hj24_l22.step hst he42 (hms.apart 1 3 rfl rfl rfl)
   replace hj35_l33 := hj35_l33.step hst he42 (hms.apart 2 3 rfl rfl rfl)
   replace hs31 := hs31.step hst
   replace hs39 := hs39.step hst
   replace hms := hms.ev he42
   replace hev := hev.then he42 (fun b hb => .inr (hfr.at 3 rfl b hb))
   replace hb18 := hb42
   refine x_end rfl ?_
   refine k_block ?_
   refine k_then ?_
   refine c_plain ?_
   refine x_u 2 [(106, Vi (IntKind.i64.wrap (t95__s95_l33 + 1))), (95, Vi (IntKind.i64.wrap (t95__s95_l33 + 1)))] ?_
   refine x_end rfl ?_
   have hx := some_inj h
   subst hx
   exact k_then ⟨(m33, (d35_l33 ++ [IntKind.i64.wrap x37]), IntKind.i64.wrap (t95__s95_l33 + 1), a41, c41), ⟨rfl, rfl, rfl, rfl, rfl, trivial⟩, ⟨hn33, hev, hms, hfr, hb2, hj24_l22, hj35_l33, hb18, hs31⟩, Nat.lt_succ_self _⟩
 refine c_exit ?_
 refine k_then_exit ?_
 have hx := some_inj h
 subst hx
 have hy := some_inj hn33
 subst hy
 replace h := h33
 refine k_then_exit ?_
 refine k_block_in ?_
 refine k_then ?_
 refine c_norm [(2, Vp b2 0), (8, Vp b18 0)] ⟨rfl, rfl, trivial⟩ (fun J => ?_)
 refine c_seq ?_
 refine c_sp ?_
 refine x_load (xv := Vp b18 0) (.agg #[Vi (IntKind.i64.wrap x16), Vl a24_l22 d24_l22 c24_l22, Vl a35_l33 d35_l33 c35_l33]) rfl rfl rfl (reads_boxagg 0 [Vi (IntKind.i64.wrap x16), Vl a24_l22 d24_l22 c24_l22, Vl a35_l33 d35_l33 c35_l33] tagg29 hb18 nn rfl) ?_
 obtain ⟨x43, hx, h⟩ := bind_some h
 have hpk : MS wl33 ([] ++ [[b2], [b18], M]) := hms.pick [some 0, some 3, some 4] _ rfl
 have hsb0 : ∀ x ∈ fl ([] ++ [[b2], [b18], M]), x ∈ fl [[b2], blk a24_l22, blk a35_l33, [b18], M] := pick_sub [some 0, some 3, some 4] _ rfl
 have hsb : ∀ x ∈ fl ([] ++ [(fl [[b2], [b18], M])]), x ∈ fl [[b2], blk a24_l22, blk a35_l33, [b18], M] := fun x hx => hsb0 x (fl_unfold x hx)
 have hcall := certificate_check_w (IntKind.i64.wrap x16) a24_l22 c24_l22 d24_l22 a35_l33 c35_l33 d35_l33 _ wl33 (fl [[b2], [b18], M]) (MS.fold (P := []) hpk) (hj24_l22.ro hsb (fun b hb hb2 => pick_out hms 1 rfl [some 0, some 3, some 4] ([] ++ [[b2], [b18], M]) rfl rfl b hb (fl_unfold b hb2))) (hj35_l33.ro hsb (fun b hb hb2 => pick_out hms 2 rfl [some 0, some 3, some 4] ([] ++ [[b2], [b18], M]) rfl rfl b hb (fl_unfold b hb2))) hx
 refine x_call 46 #[] #[] [.agg #[Vi (IntKind.i64.wrap x16), Vl a24_l22 d24_l22 c24_l22, Vl a35_l33 d35_l33 c35_l33]] _ rfl rfl rfl rfl hcall ?_
 rintro v w44 ⟨rfl, he44⟩
 clear hcall hx
 refine inl1 ?_
 have hst := Stp.ext (ls := [[b2], blk a24_l22, blk a35_l33, [b18], M]) he44
 replace hb2 := he44.box hb2 nn
 replace hb18 := he44.box hb18 nn
 replace hj24_l22 := hj24_l22.step hst he44 nn2
 replace hj35_l33 := hj35_l33.step hst he44 nn2
 replace hms := hms.ev he44
 replace hev := hev.ext he44
 clear hpk hsb hsb0
 refine x_u 1 [(12, Vi x43)] ?_
 refine x_ek ?_
 refine c_sp ?_
 refine x_u 2 [(109, Vi x43), (110, .bool (x43 != 0))] ?_
 refine x_ek ?_
 refine c_if (x43 != 0) rfl h (fun h => ?_) (fun h => ?_)
 · refine c_sp ?_
   refine x_build (vs := []) (.agg #[Vi 0, .slice none 0 0, .slice none 0 0]) rfl rfl rfl (fun _ _ => by kernel_rfl) ?_
   refine x_u 1 [(112, Vi x43)] ?_
   obtain ⟨w45, hr45, hb45, he45⟩ := store_boxagg 0 [Vi 0, .slice none 0 0, .slice none 0 0] #[Vi 0, .slice none 0 0, .slice none 0 0] tagg29 hb2 rfl rfl rfl
   refine x_store w45 (xv := Vp b2 0) (yv := .agg #[Vi 0, .slice none 0 0, .slice none 0 0]) rfl rfl rfl rfl hr45 ?_
   refine inl1 ?_
   have hst := Stp.ev' (ls := [[b2], blk a24_l22, blk a35_l33, [b18], M]) he45 (mem_flat 0 rfl)
   replace hb18 := he45.box hb18 (hms.apart 3 0 rfl rfl rfl _ mem1)
   replace hj24_l22 := hj24_l22.step hst he45 (hms.apart 1 0 rfl rfl rfl)
   replace hj35_l33 := hj35_l33.step hst he45 (hms.apart 2 0 rfl rfl rfl)
   replace hms := hms.ev he45
   replace hev := hev.then he45 (fun b hb => .inr (hfr.at 0 rfl b hb))
   replace hb2 := hb45
   refine x_u 1 [(3, Vi x43)] ?_
   refine x_ek ?_
   refine c_ret ?_
   refine k_then_ret ?_
   refine r_ret (r_vals [.agg #[Vi 0, .slice none 0 0, .slice none 0 0], Vi x43] ⟨⟨_, rfl, loadVar_of_reads (reads_boxagg (Mo := []) 0 [Vi 0, .slice none 0 0, .slice none 0 0] tagg29 hb2 nn rfl)⟩, rfl, trivial⟩ ?_)
   have hx := some_inj h
   subst hx
   have hmr : MS w45 [blk none, blk none, M] := hms.pick [none, none, some 4] _ rfl
   have hsu : ∀ x ∈ fl [blk none, blk none, M], x ∈ fl [[b2], blk a24_l22, blk a35_l33, [b18], M] := pick_sub [none, none, some 4] _ rfl
   have hfe : FR w.heap.size [blk none, blk none] := hfr.pick [none, none] _ rfl
   exact ⟨none, 0, none, 0, rfl, hev, hmr, hfe, OwnS.nil _ _ _ _, OwnS.nil _ _ _ _⟩
 refine c_skip ?_
 refine k_then ?_
 refine c_sp ?_
 refine x_load (xv := Vp b18 0) (.agg #[Vi (IntKind.i64.wrap x16), Vl a24_l22 d24_l22 c24_l22, Vl a35_l33 d35_l33 c35_l33]) rfl rfl rfl (reads_boxagg 0 [Vi (IntKind.i64.wrap x16), Vl a24_l22 d24_l22 c24_l22, Vl a35_l33 d35_l33 c35_l33] tagg29 hb18 nn rfl) ?_
 obtain ⟨w46, hr46, hb46, he46⟩ := store_boxagg 0 [Vi (IntKind.i64.wrap x16), Vl a24_l22 d24_l22 c24_l22, Vl a35_l33 d35_l33 c35_l33] #[Vi (IntKind.i64.wrap x16), Vl a24_l22 d24_l22 c24_l22, Vl a35_l33 d35_l33 c35_l33] tagg29 hb2 rfl rfl rfl
 refine x_store w46 (xv := Vp b2 0) (yv := .agg #[Vi (IntKind.i64.wrap x16), Vl a24_l22 d24_l22 c24_l22, Vl a35_l33 d35_l33 c35_l33]) rfl rfl rfl rfl hr46 ?_
 refine inl1 ?_
 have hst := Stp.ev' (ls := [[b2], blk a24_l22, blk a35_l33, [b18], M]) he46 (mem_flat 0 rfl)
 replace hb18 := he46.box hb18 (hms.apart 3 0 rfl rfl rfl _ mem1)
 replace hj24_l22 := hj24_l22.step hst he46 (hms.apart 1 0 rfl rfl rfl)
 replace hj35_l33 := hj35_l33.step hst he46 (hms.apart 2 0 rfl rfl rfl)
 replace hms := hms.ev he46
 replace hev := hev.then he46 (fun b hb => .inr (hfr.at 0 rfl b hb))
 replace hb2 := hb46
 refine x_u 1 [(3, Vi 0)] ?_
 refine x_ek ?_
 refine c_ret ?_
 refine r_ret (r_vals [.agg #[Vi (IntKind.i64.wrap x16), Vl a24_l22 d24_l22 c24_l22, Vl a35_l33 d35_l33 c35_l33], Vi 0] ⟨⟨_, rfl, loadVar_of_reads (reads_boxagg (Mo := []) 0 [Vi (IntKind.i64.wrap x16), Vl a24_l22 d24_l22 c24_l22, Vl a35_l33 d35_l33 c35_l33] tagg29 hb2 nn rfl)⟩, rfl, trivial⟩ ?_)
 have hx := some_inj h
 subst hx
 have hmr : MS w46 [blk a24_l22, blk a35_l33, M] := hms.pick [some 1, some 2, some 4] _ rfl
 have hsu : ∀ x ∈ fl [blk a24_l22, blk a35_l33, M], x ∈ fl [[b2], blk a24_l22, blk a35_l33, [b18], M] := pick_sub [some 1, some 2, some 4] _ rfl
 have hfe : FR w.heap.size [blk a24_l22, blk a35_l33] := hfr.pick [some 1, some 2] _ rfl
 exact ⟨a24_l22, c24_l22, a35_l33, c35_l33, rfl, hev, hmr, hfe, hj24_l22.sub hsu, hj35_l33.sub hsu⟩
end Go.Proofs.Ytcignnfdpgeogaa
