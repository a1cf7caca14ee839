
/- Walks, printed by program: each function returns what the partial function of the same name returns. Conditions: those of each theorem. -/
import Derived.Test.YtcignnfdpgeogaaGT
set_option linter.unusedVariables false
set_option linter.unusedSimpArgs false
set_option maxRecDepth 4000
namespace Go.Proofs.Ytcignnfdpgeogaa
open Go Go.V Go.Proofs
def slices_Max_int_int__L5 (p0 : List Int) (s : Int × Int) : Option (Step (Int × Int) Int) :=
match s with
| (v_m_s3_l5, i_s4_l5) =>
(if (decide (i_s4_l5 < ((p0).length : Int))) = true then
((idx p0 i_s4_l5).bind fun x7 =>
some (.next (if x7 > v_m_s3_l5 then x7 else v_m_s3_l5, IntKind.i64.wrap (i_s4_l5 + 1))))
else
some (.done v_m_s3_l5))

def slices_Max_int_int_ (p0 : List Int) : Option Int :=
(if (decide (((p0).length : Int) < 1)) = true then
none
else
((idx p0 0).bind fun x3 =>
((loop (slices_Max_int_int__L5 p0) (x3, 1)).bind fun d => match d with
| v_m_s3_x5 => some v_m_s3_x5)))

theorem slices_Max_int_int__w (a_p0 : Option Addr) (c_p0 : Nat) (p0 : List Int) (r : Int) (w : World) (M : List Nat) (hms : MS w [M]) (hs_p0 : SlR (eInt .i64) w (fl [M]) a_p0 c_p0 p0) (h : slices_Max_int_int_ p0 = some r) : CallVC Try.prog 55 [Vl a_p0 p0 c_p0] w fun v w' => v = Vi r ∧ Ev [] w w' := by
 refine calls_vc hmx Try.func55 (by kernel_rfl) rfl (rs := [.tmp 2]) rfl (by kernel_rfl) (args := [Vl a_p0 p0 c_p0]) rfl ?_
 have hev : Ev [] w w := Ev.refl _ _
 have hfr : FR w.heap.size [] := FR.nil _
 refine c_sp ?_
 refine x_u 1 [(2, Vi 0)] ?_
 refine x_ek ?_
 refine c_seq ?_
 refine c_sp ?_
 refine x_u 1 [(5, Vl a_p0 p0 c_p0)] ?_
 refine x_len (vs := [Vl a_p0 p0 c_p0]) (Vi ((p0).length : Int)) rfl rfl rfl (reads_len tsl22 _ _ _ _ _) ?_
 refine x_u 1 [(7, .bool (decide (((p0).length : Int) < 1)))] ?_
 refine x_ek ?_
 refine c_if (decide (((p0).length : Int) < 1)) rfl h (fun h => ?_) (fun h => ?_)
 · refine c_plain ?_
   cases h
 refine c_skip ?_
 refine k_then ?_
 refine c_sp ?_
 refine x_u 1 [(9, Vl a_p0 p0 c_p0)] ?_
 obtain ⟨x3, hx3, h⟩ := bind_some h
 obtain ⟨ad3, cs3, hr3, hc3, hR⟩ := reads_index (Mo := []) tsl22 hs_p0 hx3
 obtain rfl := hR
 refine x_indexAddr (xv := Vl a_p0 p0 c_p0) (yv := Vi 0) (.pointer (some ad3)) rfl rfl rfl rfl hr3 ?_
 refine x_load (xv := .pointer (some ad3)) (Vi x3) rfl rfl rfl (reads_cell0 tcell3 hc3 (fun _ h => by cases h)) ?_
 refine x_u 1 [(3, Vi x3)] ?_
 refine x_ek ?_
 refine c_seq ?_
 refine c_sp ?_
 refine x_u 1 [(4, Vi 1)] ?_
 refine x_ek ?_
 refine c_block ?_
 obtain ⟨d5, hd5, h5⟩ := bind_some h
 obtain ⟨m5, hd5⟩ := loop_some hd5
 refine c_loop (loop_rule hmx (σ := Nat × Int × Int) (fun s => match s with | (_, v_m_s3_l5, i_s4_l5) => [(0, Vl a_p0 p0 c_p0), (3, Vi v_m_s3_l5), (4, Vi i_s4_l5)]) (fun s w' => match s with | (m, v_m_s3_l5, i_s4_l5) => loopN (slices_Max_int_int__L5 p0) m (v_m_s3_l5, i_s4_l5) = some d5 ∧ Ev [] w w' ∧ MS w' [M] ∧ FR w.heap.size [] ∧ SlR (eInt .i64) w' (fl [M]) a_p0 c_p0 p0) (fun s => s.1) (m5, x3, 1) ⟨rfl, rfl, rfl, trivial⟩ ⟨hd5, hev, hms, hfr, hs_p0⟩ ?_)
 rintro ⟨m5, v_m_s3_l5, i_s4_l5⟩ J wl5 ⟨hn5, hev, hms, hfr, hs_p0⟩
 rcases m5 with _ | m5
 · exact (loopN_zero hn5).elim
 obtain ⟨t5, h, hn5⟩ := bind_some hn5
 refine c_seq ?_
 refine c_sp ?_
 refine x_u 2 [(12, Vi i_s4_l5), (13, Vl a_p0 p0 c_p0)] ?_
 refine x_len (vs := [Vl a_p0 p0 c_p0]) (Vi ((p0).length : Int)) rfl rfl rfl (reads_len tsl22 _ _ _ _ _) ?_
 refine x_u 1 [(15, .bool (decide (i_s4_l5 < ((p0).length : Int))))] ?_
 refine x_ek ?_
 refine c_norm [(0, Vl a_p0 p0 c_p0), (3, Vi v_m_s3_l5), (4, Vi i_s4_l5), (15, .bool (decide (i_s4_l5 < ((p0).length : Int))))] ⟨rfl, rfl, rfl, rfl, trivial⟩ (fun J => ?_)
 refine c_if (decide (i_s4_l5 < ((p0).length : Int))) rfl h (fun h => ?_) (fun h => ?_)
 · refine c_skip ?_
   refine k_then ?_
   refine c_seq ?_
   refine c_block ?_
   refine c_plain ?_
   refine x_u 3 [(18, Vi v_m_s3_l5), (19, Vl a_p0 p0 c_p0), (20, Vi i_s4_l5)] ?_
   obtain ⟨x7, hx7, h⟩ := bind_some h
   obtain ⟨ad7, cs7, hr7, hc7, hR⟩ := reads_index (Mo := []) tsl22 hs_p0 hx7
   obtain rfl := hR
   refine x_indexAddr (xv := Vl a_p0 p0 c_p0) (yv := Vi i_s4_l5) (.pointer (some ad7)) rfl rfl rfl rfl hr7 ?_
   refine x_load (xv := .pointer (some ad7)) (Vi x7) rfl rfl rfl (reads_cell0 tcell3 hc7 (fun _ h => by cases h)) ?_
   refine x_max (vs := [Vi v_m_s3_l5, Vi x7]) (Vi (if x7 > v_m_s3_l5 then x7 else v_m_s3_l5)) rfl rfl rfl (fun _ _ => rfl) ?_
   refine x_u 1 [(3, Vi (if x7 > v_m_s3_l5 then x7 else v_m_s3_l5))] ?_
   refine x_end rfl ?_
   refine k_block ?_
   refine k_then ?_
   refine c_plain ?_
   refine x_u 3 [(16, Vi i_s4_l5), (17, Vi (IntKind.i64.wrap (i_s4_l5 + 1))), (4, Vi (IntKind.i64.wrap (i_s4_l5 + 1)))] ?_
   refine x_end rfl ?_
   have hx := some_inj h
   subst hx
   exact k_then ⟨(m5, if x7 > v_m_s3_l5 then x7 else v_m_s3_l5, IntKind.i64.wrap (i_s4_l5 + 1)), ⟨rfl, rfl, rfl, trivial⟩, ⟨hn5, hev, hms, hfr, hs_p0⟩, Nat.lt_succ_self _⟩
 refine c_exit ?_
 refine k_then_exit ?_
 have hx := some_inj h
 subst hx
 have hy := some_inj hn5
 subst hy
 replace h := h5
 refine k_then_exit ?_
 refine k_block_in ?_
 refine k_then ?_
 refine c_norm [(3, Vi v_m_s3_l5)] ⟨rfl, trivial⟩ (fun J => ?_)
 refine c_sp ?_
 refine x_u 2 [(24, Vi v_m_s3_l5), (2, Vi v_m_s3_l5)] ?_
 refine x_ek ?_
 refine c_ret ?_
 refine r_ret (r_vals [Vi v_m_s3_l5] ⟨rfl, trivial⟩ ?_)
 have hx := some_inj h
 subst hx
 have hmr : MS wl5 [M] := hms.pick [some 0] _ rfl
 have hsu : ∀ x ∈ fl [M], x ∈ fl [M] := pick_sub [some 0] _ rfl
 exact ⟨rfl, hev⟩
def slices_Index_int_int__L2 (p0 : List Int) (p1 : Int) (s : Int) : Option (Step Int (Int ⊕ Unit)) :=
match s with
| t8__s8_l2 =>
(if (decide (t8__s8_l2 < ((p0).length : Int))) = true then
((idx p0 t8__s8_l2).bind fun x4 =>
(if (p1 == x4) = true then
some (.done (.inl t8__s8_l2))
else
some (.next (IntKind.i64.wrap (t8__s8_l2 + 1)))))
else
some (.done (.inr ())))

def slices_Index_int_int_ (p0 : List Int) (p1 : Int) : Option Int :=
((loop (slices_Index_int_int__L2 p0 p1) 0).bind fun d => match d with
| (.inl t4__s4_x200) => some t4__s4_x200
| (.inr _) => some (-1))

theorem slices_Index_int_int__w (a_p0 : Option Addr) (c_p0 : Nat) (p0 : List Int) (p1 : Int) (r : Int) (w : World) (M : List Nat) (hms : MS w [M]) (hs_p0 : SlR (eInt .i64) w (fl [M]) a_p0 c_p0 p0) (h : slices_Index_int_int_ p0 p1 = some r) : CallVC Try.prog 54 [Vl a_p0 p0 c_p0, Vi p1] w fun v w' => v = Vi r ∧ Ev [] w w' := by
 refine calls_vc hmx Try.func54 (by kernel_rfl) rfl (rs := [.tmp 4]) rfl (by kernel_rfl) (args := [Vl a_p0 p0 c_p0, Vi p1]) rfl ?_
 have hev : Ev [] w w := Ev.refl _ _
 have hfr : FR w.heap.size [] := FR.nil _
 refine c_sp ?_
 refine x_u 1 [(4, Vi 0)] ?_
 refine x_ek ?_
 refine c_seq ?_
 refine c_sp ?_
 refine x_u 1 [(6, Vl a_p0 p0 c_p0)] ?_
 refine x_len (vs := [Vl a_p0 p0 c_p0]) (Vi ((p0).length : Int)) rfl rfl rfl (reads_len tsl22 _ _ _ _ _) ?_
 refine x_u 1 [(8, Vi 0)] ?_
 refine x_ek ?_
 refine c_block ?_
 obtain ⟨d2, hd2, h2⟩ := bind_some h
 obtain ⟨m2, hd2⟩ := loop_some hd2
 refine c_loop (loop_rule hmx (σ := Nat × Int) (fun s => match s with | (_, t8__s8_l2) => [(0, Vl a_p0 p0 c_p0), (1, Vi p1), (7, Vi ((p0).length : Int)), (8, Vi t8__s8_l2)]) (fun s w' => match s with | (m, t8__s8_l2) => loopN (slices_Index_int_int__L2 p0 p1) m t8__s8_l2 = some d2 ∧ Ev [] w w' ∧ MS w' [M] ∧ FR w.heap.size [] ∧ SlR (eInt .i64) w' (fl [M]) a_p0 c_p0 p0) (fun s => s.1) (m2, 0) ⟨rfl, rfl, rfl, rfl, trivial⟩ ⟨hd2, hev, hms, hfr, hs_p0⟩ ?_)
 rintro ⟨m2, t8__s8_l2⟩ J wl2 ⟨hn2, hev, hms, hfr, hs_p0⟩
 rcases m2 with _ | m2
 · exact (loopN_zero hn2).elim
 obtain ⟨t2, h, hn2⟩ := bind_some hn2
 refine c_sp ?_
 refine x_u 1 [(9, .bool (decide (t8__s8_l2 < ((p0).length : Int))))] ?_
 refine x_ek ?_
 refine c_norm [(0, Vl a_p0 p0 c_p0), (1, Vi p1), (7, Vi ((p0).length : Int)), (8, Vi t8__s8_l2), (9, .bool (decide (t8__s8_l2 < ((p0).length : Int))))] ⟨rfl, rfl, rfl, rfl, rfl, trivial⟩ (fun J => ?_)
 refine c_seq ?_
 refine c_if (decide (t8__s8_l2 < ((p0).length : Int))) rfl h (fun h => ?_) (fun h => ?_)
 · refine c_skip ?_
   refine k_then ?_
   refine c_seq ?_
   refine c_block ?_
   refine c_sp ?_
   refine x_u 2 [(10, Vi t8__s8_l2), (5, Vi t8__s8_l2)] ?_
   refine x_ek ?_
   refine c_sp ?_
   refine x_u 3 [(11, Vi p1), (12, Vl a_p0 p0 c_p0), (13, Vi t8__s8_l2)] ?_
   obtain ⟨x4, hx4, h⟩ := bind_some h
   obtain ⟨ad4, cs4, hr4, hc4, hR⟩ := reads_index (Mo := []) tsl22 hs_p0 hx4
   obtain rfl := hR
   refine x_indexAddr (xv := Vl a_p0 p0 c_p0) (yv := Vi t8__s8_l2) (.pointer (some ad4)) rfl rfl rfl rfl hr4 ?_
   refine x_load (xv := .pointer (some ad4)) (Vi x4) rfl rfl rfl (reads_cell0 tcell3 hc4 (fun _ h => by cases h)) ?_
   refine x_u 1 [(16, .bool (p1 == x4))] ?_
   refine x_ek ?_
   refine c_if (p1 == x4) rfl h (fun h => ?_) (fun h => ?_)
   · refine c_sp ?_
     refine x_u 2 [(17, Vi t8__s8_l2), (4, Vi t8__s8_l2)] ?_
     refine x_ek ?_
     refine c_ret ?_
     refine k_block_ret ?_
     refine k_then_ret ?_
     have hx := some_inj h
     subst hx
     have hy := some_inj hn2
     subst hy
     replace h := h2
     refine k_then_ret ?_
     refine k_block_ret ?_
     refine k_then_ret ?_
     refine r_ret (r_vals [Vi t8__s8_l2] ⟨rfl, trivial⟩ ?_)
     have hx := some_inj h
     subst hx
     have hmr : MS wl2 [M] := hms.pick [some 0] _ rfl
     have hsu : ∀ x ∈ fl [M], x ∈ fl [M] := pick_sub [some 0] _ rfl
     exact ⟨rfl, hev⟩
   refine c_skip ?_
   refine k_block ?_
   refine k_then ?_
   refine c_plain ?_
   refine x_u 2 [(18, Vi (IntKind.i64.wrap (t8__s8_l2 + 1))), (8, Vi (IntKind.i64.wrap (t8__s8_l2 + 1)))] ?_
   refine x_end rfl ?_
   have hx := some_inj h
   subst hx
   exact k_then ⟨(m2, IntKind.i64.wrap (t8__s8_l2 + 1)), ⟨rfl, rfl, rfl, rfl, trivial⟩, ⟨hn2, hev, hms, hfr, hs_p0⟩, Nat.lt_succ_self _⟩
 refine c_exit ?_
 refine k_then_exit ?_
 have hx := some_inj h
 subst hx
 have hy := some_inj hn2
 subst hy
 replace h := h2
 refine k_then_exit ?_
 refine k_block_in ?_
 refine k_then ?_
 refine c_norm [] trivial (fun J => ?_)
 refine c_sp ?_
 refine x_u 1 [(4, Vi (-1))] ?_
 refine x_ek ?_
 refine c_ret ?_
 refine r_ret (r_vals [Vi (-1)] ⟨rfl, trivial⟩ ?_)
 have hx := some_inj h
 subst hx
 have hmr : MS wl2 [M] := hms.pick [some 0] _ rfl
 have hsu : ∀ x ∈ fl [M], x ∈ fl [M] := pick_sub [some 0] _ rfl
 exact ⟨rfl, hev⟩
end Go.Proofs.Ytcignnfdpgeogaa
