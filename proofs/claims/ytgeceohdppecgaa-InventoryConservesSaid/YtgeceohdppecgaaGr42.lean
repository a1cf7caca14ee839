
/- Walks, printed by program: each function returns what the partial function of the same name returns. Conditions: those of each theorem. -/
import Derived.Test.YtgeceohdppecgaaGT
set_option linter.unusedVariables false
set_option linter.unusedSimpArgs false
set_option maxRecDepth 4000
namespace Go.Proofs.Ytgeceohdppecgaa
open Go Go.V Go.Proofs
def r42_sum_L3 (p0 : List Int) (p1 : List Int) (s : Int × Int) : Option (Step (Int × Int) Int) :=
match s with
| (n_s5_l3, i_s6_l3) =>
(if (decide (i_s6_l3 < ((p1).length : Int))) = true then
((idx p1 i_s6_l3).bind fun x5 =>
((idx p0 x5).bind fun x7 =>
some (.next (IntKind.i64.wrap (n_s5_l3 + x7), IntKind.i64.wrap (i_s6_l3 + 1)))))
else
some (.done n_s5_l3))

def r42_sum (p0 : List Int) (p1 : List Int) : Option Int :=
((loop (r42_sum_L3 p0 p1) (0, 0)).bind fun d => match d with
| n_s5_x3 => some n_s5_x3)

theorem r42_sum_w (a_p0 : Option Addr) (c_p0 : Nat) (p0 : List Int) (a_p1 : Option Addr) (c_p1 : Nat) (p1 : List Int) (r : Int) (w : World) (M : List Nat) (hms : MS w [M]) (hs_p0 : SlR (eInt .i64) w (fl [M]) a_p0 c_p0 p0) (hs_p1 : SlR (eInt .i64) w (fl [M]) a_p1 c_p1 p1) (h : r42_sum p0 p1 = some r) : CallVC Try.prog 31 [Vl a_p0 p0 c_p0, Vl a_p1 p1 c_p1] w fun v w' => v = Vi r ∧ Ev [] w w' := by
 refine calls_vc hmx Try.func31 (by kernel_rfl) rfl (rs := [.tmp 4]) rfl (by kernel_rfl) (args := [Vl a_p0 p0 c_p0, Vl a_p1 p1 c_p1]) rfl ?_
 have hev : Ev [] w w := Ev.refl _ _
 have hfr : FR w.heap.size [] := FR.nil _
 refine c_sp ?_
 refine x_u 1 [(4, Vi 0)] ?_
 refine x_ek ?_
 refine c_sp ?_
 refine x_u 1 [(5, Vi 0)] ?_
 refine x_ek ?_
 refine c_seq ?_
 refine c_sp ?_
 refine x_u 1 [(6, Vi 0)] ?_
 refine x_ek ?_
 refine c_block ?_
 obtain ⟨d3, hd3, h3⟩ := bind_some h
 obtain ⟨m3, hd3⟩ := loop_some hd3
 refine c_loop (loop_rule hmx (σ := Nat × Int × Int) (fun s => match s with | (_, n_s5_l3, i_s6_l3) => [(0, Vl a_p0 p0 c_p0), (1, Vl a_p1 p1 c_p1), (5, Vi n_s5_l3), (6, Vi i_s6_l3)]) (fun s w' => match s with | (m, n_s5_l3, i_s6_l3) => loopN (r42_sum_L3 p0 p1) m (n_s5_l3, i_s6_l3) = some d3 ∧ Ev [] w w' ∧ MS w' [M] ∧ FR w.heap.size [] ∧ SlR (eInt .i64) w' (fl [M]) a_p0 c_p0 p0 ∧ SlR (eInt .i64) w' (fl [M]) a_p1 c_p1 p1) (fun s => s.1) (m3, 0, 0) ⟨rfl, rfl, rfl, rfl, trivial⟩ ⟨hd3, hev, hms, hfr, hs_p0, hs_p1⟩ ?_)
 rintro ⟨m3, n_s5_l3, i_s6_l3⟩ J wl3 ⟨hn3, hev, hms, hfr, hs_p0, hs_p1⟩
 rcases m3 with _ | m3
 · exact (loopN_zero hn3).elim
 obtain ⟨t3, h, hn3⟩ := bind_some hn3
 refine c_seq ?_
 refine c_sp ?_
 refine x_u 2 [(7, Vi i_s6_l3), (8, Vl a_p1 p1 c_p1)] ?_
 refine x_len (vs := [Vl a_p1 p1 c_p1]) (Vi ((p1).length : Int)) rfl rfl rfl (reads_len tsl22 _ _ _ _ _) ?_
 refine x_u 1 [(10, .bool (decide (i_s6_l3 < ((p1).length : Int))))] ?_
 refine x_ek ?_
 refine c_norm [(0, Vl a_p0 p0 c_p0), (1, Vl a_p1 p1 c_p1), (5, Vi n_s5_l3), (6, Vi i_s6_l3), (10, .bool (decide (i_s6_l3 < ((p1).length : Int))))] ⟨rfl, rfl, rfl, rfl, rfl, trivial⟩ (fun J => ?_)
 refine c_if (decide (i_s6_l3 < ((p1).length : Int))) rfl h (fun h => ?_) (fun h => ?_)
 · refine c_skip ?_
   refine k_then ?_
   refine c_seq ?_
   refine c_block ?_
   refine c_plain ?_
   refine x_u 4 [(13, Vi n_s5_l3), (14, Vl a_p0 p0 c_p0), (15, Vl a_p1 p1 c_p1), (16, Vi i_s6_l3)] ?_
   obtain ⟨x5, hx5, h⟩ := bind_some h
   obtain ⟨ad5, cs5, hr5, hc5, hR⟩ := reads_index (Mo := []) tsl22 hs_p1 hx5
   obtain rfl := hR
   refine x_indexAddr (xv := Vl a_p1 p1 c_p1) (yv := Vi i_s6_l3) (.pointer (some ad5)) rfl rfl rfl rfl hr5 ?_
   refine x_load (xv := .pointer (some ad5)) (Vi x5) rfl rfl rfl (reads_cell0 tcell3 hc5 (fun _ h => by cases h)) ?_
   obtain ⟨x7, hx7, h⟩ := bind_some h
   obtain ⟨ad7, cs7, hr7, hc7, hR⟩ := reads_index (Mo := []) tsl22 hs_p0 hx7
   obtain rfl := hR
   refine x_indexAddr (xv := Vl a_p0 p0 c_p0) (yv := Vi x5) (.pointer (some ad7)) rfl rfl rfl rfl hr7 ?_
   refine x_load (xv := .pointer (some ad7)) (Vi x7) rfl rfl rfl (reads_cell0 tcell3 hc7 (fun _ h => by cases h)) ?_
   refine x_u 2 [(21, Vi (IntKind.i64.wrap (n_s5_l3 + x7))), (5, Vi (IntKind.i64.wrap (n_s5_l3 + x7)))] ?_
   refine x_end rfl ?_
   refine k_block ?_
   refine k_then ?_
   refine c_plain ?_
   refine x_u 3 [(11, Vi i_s6_l3), (12, Vi (IntKind.i64.wrap (i_s6_l3 + 1))), (6, Vi (IntKind.i64.wrap (i_s6_l3 + 1)))] ?_
   refine x_end rfl ?_
   have hx := some_inj h
   subst hx
   exact k_then ⟨(m3, IntKind.i64.wrap (n_s5_l3 + x7), IntKind.i64.wrap (i_s6_l3 + 1)), ⟨rfl, rfl, rfl, rfl, trivial⟩, ⟨hn3, hev, hms, hfr, hs_p0, hs_p1⟩, Nat.lt_succ_self _⟩
 refine c_exit ?_
 refine k_then_exit ?_
 have hx := some_inj h
 subst hx
 have hy := some_inj hn3
 subst hy
 replace h := h3
 refine k_then_exit ?_
 refine k_block_in ?_
 refine k_then ?_
 refine c_norm [(5, Vi n_s5_l3)] ⟨rfl, trivial⟩ (fun J => ?_)
 refine c_sp ?_
 refine x_u 2 [(22, Vi n_s5_l3), (4, Vi n_s5_l3)] ?_
 refine x_ek ?_
 refine c_ret ?_
 refine r_ret (r_vals [Vi n_s5_l3] ⟨rfl, trivial⟩ ?_)
 have hx := some_inj h
 subst hx
 have hmr : MS wl3 [M] := hms.pick [some 0] _ rfl
 have hsu : ∀ x ∈ fl [M], x ∈ fl [M] := pick_sub [some 0] _ rfl
 exact ⟨rfl, hev⟩
def r42_Valid_L17 (p1 : List Int) (p2 : List (List Int)) (v_t_s9_l14 : Int) (s : (List Bool) × Int) : Option (Step ((List Bool) × Int) (Unit ⊕ (List Bool))) :=
match s with
| (d13_l17, i_s10_l17) =>
((idx p2 v_t_s9_l14).bind fun x19 =>
(if (decide (i_s10_l17 < ((x19).length : Int))) = true then
((idx p2 v_t_s9_l14).bind fun x23 =>
((idx x23 i_s10_l17).bind fun x27 =>
(if (decide (x27 < 0)) = true then
some (.done (.inl ()))
else
(if (decide (x27 ≥ ((p1).length : Int))) = true then
some (.done (.inl ()))
else
((idx d13_l17 x27).bind fun x29 =>
(if x29 = true then
some (.done (.inl ()))
else
((idx d13_l17 x27).bind fun x31 =>
some (.next ((d13_l17.set (Int.toNat x27) true), IntKind.i64.wrap (i_s10_l17 + 1))))))))))
else
some (.done (.inr d13_l17))))

def r42_Valid_L14 (p0 : List ((List UInt8) × Int)) (p1 : List Int) (p2 : List (List Int)) (s : (List Bool) × Int) : Option (Step ((List Bool) × Int) (Unit ⊕ Unit)) :=
match s with
| (d13_l14, v_t_s9_l14) =>
(if (decide (v_t_s9_l14 < ((p2).length : Int))) = true then
((loop (r42_Valid_L17 p1 p2 v_t_s9_l14) (d13_l14, 0)).bind fun d => match d with
| (.inl _) => some (.done (.inl ()))
| (.inr d13_x1701) => ((idx p0 v_t_s9_l14).bind fun x34 =>
(if (decide (x34.2 < 0)) = true then
some (.done (.inl ()))
else
((idx p0 v_t_s9_l14).bind fun x36 =>
(if (decide (x36.2 > 100000)) = true then
some (.done (.inl ()))
else
((idx p2 v_t_s9_l14).bind fun x38 =>
((idx p0 v_t_s9_l14).bind fun x42 =>
((r42_sum p1 x38).bind fun x44 =>
(if (decide (x44 > x42.2)) = true then
some (.done (.inl ()))
else
some (.next (d13_x1701, IntKind.i64.wrap (v_t_s9_l14 + 1))))))))))))
else
some (.done (.inr ())))

def r42_Valid_L6 (p1 : List Int) (s : Int) : Option (Step Int (Unit ⊕ Unit)) :=
match s with
| i_s7_l6 =>
(if (decide (i_s7_l6 < ((p1).length : Int))) = true then
((idx p1 i_s7_l6).bind fun x8 =>
(if (decide (x8 < 1)) = true then
some (.done (.inl ()))
else
((idx p1 i_s7_l6).bind fun x10 =>
(if (decide (x10 > 400)) = true then
some (.done (.inl ()))
else
some (.next (IntKind.i64.wrap (i_s7_l6 + 1)))))))
else
some (.done (.inr ())))

def r42_Valid (p0 : List ((List UInt8) × Int)) (p1 : List Int) (p2 : List (List Int)) : Option Bool :=
(if (((p2).length : Int) != ((p0).length : Int)) = true then
some false
else
(if (decide (((p0).length : Int) > 24)) = true then
some false
else
(if (decide (((p1).length : Int) > 192)) = true then
some false
else
((loop (r42_Valid_L6 p1) 0).bind fun d => match d with
| (.inl _) => some false
| (.inr _) => (if (0 : Int) ≤ ((p1).length : Int) ∧ (((p1).length : Int) : Int) ≤ 4294967296 then
((loop (r42_Valid_L14 p0 p1 p2) ((List.replicate (Int.toNat ((p1).length : Int)) false : List Bool), 0)).bind fun d => match d with
| (.inl _) => some false
| (.inr _) => some true)
else none)))))

theorem r42_Valid_w (a_p0 : Option Addr) (c_p0 : Nat) (p0 : List ((List UInt8) × Int)) (a_p1 : Option Addr) (c_p1 : Nat) (p1 : List Int) (a_p2 : Option Addr) (c_p2 : Nat) (p2 : List (List Int)) (r : Bool) (w : World) (M : List Nat) (hms : MS w [M]) (hs_p0 : SlR (eProd eStr (eInt .i64)) w (fl [M]) a_p0 c_p0 p0) (hs_p1 : SlR (eInt .i64) w (fl [M]) a_p1 c_p1 p1) (hs_p2 : SlR (eSl (eInt .i64)) w (fl [M]) a_p2 c_p2 p2) (h : r42_Valid p0 p1 p2 = some r) : CallVC Try.prog 20 [.slice a_p0 (p0).length c_p0, .slice a_p1 (p1).length c_p1, .slice a_p2 (p2).length c_p2] w fun v w' => v = .bool r ∧ Ev [] w w' := by
 refine calls_vc hmx Try.func20 (by kernel_rfl) rfl (rs := [.tmp 6]) rfl (by kernel_rfl) (args := [.slice a_p0 (p0).length c_p0, .slice a_p1 (p1).length c_p1, .slice a_p2 (p2).length c_p2]) rfl ?_
 have hev : Ev [] w w := Ev.refl _ _
 have hfr : FR w.heap.size [] := FR.nil _
 refine c_sp ?_
 refine x_u 1 [(6, .bool false)] ?_
 refine x_ek ?_
 refine c_seq ?_
 refine c_sp ?_
 refine x_u 1 [(12, .slice a_p2 (p2).length c_p2)] ?_
 refine x_len (vs := [.slice a_p2 (p2).length c_p2]) (Vi ((p2).length : Int)) rfl rfl rfl (reads_len tsl26 _ _ _ _ _) ?_
 refine x_u 1 [(14, .slice a_p0 (p0).length c_p0)] ?_
 refine x_len (vs := [.slice a_p0 (p0).length c_p0]) (Vi ((p0).length : Int)) rfl rfl rfl (reads_len tsl25 _ _ _ _ _) ?_
 refine x_u 2 [(16, .bool (((p2).length : Int) != ((p0).length : Int))), (17, .bool (((p2).length : Int) != ((p0).length : Int)))] ?_
 refine x_if 17 (((p2).length : Int) != ((p0).length : Int)) rfl h (fun h => ?_) (fun h => ?_)
 · refine x_u 9 [(18, undef), (19, undef), (20, undef), (21, .bool true), (22, .bool true), (23, undef), (24, undef), (25, undef), (26, .bool true)] ?_
   refine x_ek ?_
   refine c_norm [(0, .slice a_p0 (p0).length c_p0), (1, .slice a_p1 (p1).length c_p1), (2, .slice a_p2 (p2).length c_p2), (26, .bool true)] ⟨rfl, rfl, rfl, rfl, trivial⟩ (fun J => ?_)
   refine c_true rfl ?_
   refine c_sp ?_
   refine x_u 1 [(6, .bool false)] ?_
   refine x_ek ?_
   refine c_ret ?_
   refine k_then_ret ?_
   refine r_ret (r_vals [.bool false] ⟨rfl, trivial⟩ ?_)
   have hx := some_inj h
   subst hx
   have hmr : MS w [M] := hms.pick [some 0] _ rfl
   have hsu : ∀ x ∈ fl [M], x ∈ fl [M] := pick_sub [some 0] _ rfl
   exact ⟨rfl, hev⟩
 refine x_u 1 [(18, .slice a_p0 (p0).length c_p0)] ?_
 refine x_len (vs := [.slice a_p0 (p0).length c_p0]) (Vi ((p0).length : Int)) rfl rfl rfl (reads_len tsl25 _ _ _ _ _) ?_
 refine x_u 3 [(20, .bool (decide (((p0).length : Int) > 24))), (21, .bool (decide (((p0).length : Int) > 24))), (22, .bool (decide (((p0).length : Int) > 24)))] ?_
 refine x_if 22 (decide (((p0).length : Int) > 24)) rfl h (fun h => ?_) (fun h => ?_)
 · refine x_u 4 [(23, undef), (24, undef), (25, undef), (26, .bool true)] ?_
   refine x_ek ?_
   refine c_norm [(0, .slice a_p0 (p0).length c_p0), (1, .slice a_p1 (p1).length c_p1), (2, .slice a_p2 (p2).length c_p2), (26, .bool true)] ⟨rfl, rfl, rfl, rfl, trivial⟩ (fun J => ?_)
   refine c_true rfl ?_
   refine c_sp ?_
   refine x_u 1 [(6, .bool false)] ?_
   refine x_ek ?_
   refine c_ret ?_
   refine k_then_ret ?_
   refine r_ret (r_vals [.bool false] ⟨rfl, trivial⟩ ?_)
   have hx := some_inj h
   subst hx
   have hmr : MS w [M] := hms.pick [some 0] _ rfl
   have hsu : ∀ x ∈ fl [M], x ∈ fl [M] := pick_sub [some 0] _ rfl
   exact ⟨rfl, hev⟩
 refine x_u 1 [(23, .slice a_p1 (p1).length c_p1)] ?_
 refine x_len (vs := [.slice a_p1 (p1).length c_p1]) (Vi ((p1).length : Int)) rfl rfl rfl (reads_len tsl22 _ _ _ _ _) ?_
 refine x_u 2 [(25, .bool (decide (((p1).length : Int) > 192))), (26, .bool (decide (((p1).length : Int) > 192)))] ?_
 refine x_ek ?_
 refine c_norm [(0, .slice a_p0 (p0).length c_p0), (1, .slice a_p1 (p1).length c_p1), (2, .slice a_p2 (p2).length c_p2), (26, .bool (decide (((p1).length : Int) > 192)))] ⟨rfl, rfl, rfl, rfl, trivial⟩ (fun J => ?_)
 refine c_if (decide (((p1).length : Int) > 192)) rfl h (fun h => ?_) (fun h => ?_)
 · refine c_sp ?_
   refine x_u 1 [(6, .bool false)] ?_
   refine x_ek ?_
   refine c_ret ?_
   refine k_then_ret ?_
   refine r_ret (r_vals [.bool false] ⟨rfl, trivial⟩ ?_)
   have hx := some_inj h
   subst hx
   have hmr : MS w [M] := hms.pick [some 0] _ rfl
   have hsu : ∀ x ∈ fl [M], x ∈ fl [M] := pick_sub [some 0] _ rfl
   exact ⟨rfl, hev⟩
 refine c_skip ?_
 refine k_then ?_
 refine c_seq ?_
 refine c_sp ?_
 refine x_u 1 [(7, Vi 0)] ?_
 refine x_ek ?_
 refine c_block ?_
 obtain ⟨d6, hd6, h6⟩ := bind_some h
 obtain ⟨m6, hd6⟩ := loop_some hd6
 refine c_loop (loop_rule hmx (σ := Nat × Int) (fun s => match s with | (_, i_s7_l6) => [(0, .slice a_p0 (p0).length c_p0), (1, .slice a_p1 (p1).length c_p1), (2, .slice a_p2 (p2).length c_p2), (7, Vi i_s7_l6)]) (fun s w' => match s with | (m, i_s7_l6) => loopN (r42_Valid_L6 p1) m i_s7_l6 = some d6 ∧ Ev [] w w' ∧ MS w' [M] ∧ FR w.heap.size [] ∧ SlR (eProd eStr (eInt .i64)) w' (fl [M]) a_p0 c_p0 p0 ∧ SlR (eInt .i64) w' (fl [M]) a_p1 c_p1 p1 ∧ SlR (eSl (eInt .i64)) w' (fl [M]) a_p2 c_p2 p2) (fun s => s.1) (m6, 0) ⟨rfl, rfl, rfl, rfl, trivial⟩ ⟨hd6, hev, hms, hfr, hs_p0, hs_p1, hs_p2⟩ ?_)
 rintro ⟨m6, i_s7_l6⟩ J wl6 ⟨hn6, hev, hms, hfr, hs_p0, hs_p1, hs_p2⟩
 rcases m6 with _ | m6
 · exact (loopN_zero hn6).elim
 obtain ⟨t6, h, hn6⟩ := bind_some hn6
 refine c_seq ?_
 refine c_sp ?_
 refine x_u 2 [(27, Vi i_s7_l6), (28, .slice a_p1 (p1).length c_p1)] ?_
 refine x_len (vs := [.slice a_p1 (p1).length c_p1]) (Vi ((p1).length : Int)) rfl rfl rfl (reads_len tsl22 _ _ _ _ _) ?_
 refine x_u 1 [(30, .bool (decide (i_s7_l6 < ((p1).length : Int))))] ?_
 refine x_ek ?_
 refine c_norm [(0, .slice a_p0 (p0).length c_p0), (1, .slice a_p1 (p1).length c_p1), (2, .slice a_p2 (p2).length c_p2), (7, Vi i_s7_l6), (30, .bool (decide (i_s7_l6 < ((p1).length : Int))))] ⟨rfl, rfl, rfl, rfl, rfl, trivial⟩ (fun J => ?_)
 refine c_if (decide (i_s7_l6 < ((p1).length : Int))) rfl h (fun h => ?_) (fun h => ?_)
 · refine c_skip ?_
   refine k_then ?_
   refine c_seq ?_
   refine c_block ?_
   refine c_sp ?_
   refine x_u 2 [(33, .slice a_p1 (p1).length c_p1), (34, Vi i_s7_l6)] ?_
   obtain ⟨x8, hx8, h⟩ := bind_some h
   obtain ⟨ad8, cs8, hr8, hc8, hR⟩ := reads_index (Mo := []) tsl22 hs_p1 hx8
   obtain rfl := hR
   refine x_indexAddr (xv := .slice a_p1 (p1).length c_p1) (yv := Vi i_s7_l6) (.pointer (some ad8)) rfl rfl rfl rfl hr8 ?_
   refine x_load (xv := .pointer (some ad8)) (Vi x8) rfl rfl rfl (reads_cell0 tcell3 hc8 (fun _ h => by cases h)) ?_
   refine x_u 2 [(37, .bool (decide (x8 < 1))), (38, .bool (decide (x8 < 1)))] ?_
   refine x_if 38 (decide (x8 < 1)) rfl h (fun h => ?_) (fun h => ?_)
   · refine x_u 6 [(39, undef), (40, undef), (41, undef), (42, undef), (43, undef), (44, .bool true)] ?_
     refine x_ek ?_
     refine c_norm [(0, .slice a_p0 (p0).length c_p0), (1, .slice a_p1 (p1).length c_p1), (2, .slice a_p2 (p2).length c_p2), (7, Vi i_s7_l6), (44, .bool true)] ⟨rfl, rfl, rfl, rfl, rfl, trivial⟩ (fun J => ?_)
     refine c_true rfl ?_
     refine c_sp ?_
     refine x_u 1 [(6, .bool false)] ?_
     refine x_ek ?_
     refine c_ret ?_
     refine k_block_ret ?_
     refine k_then_ret ?_
     have hx := some_inj h
     subst hx
     have hy := some_inj hn6
     subst hy
     replace h := h6
     refine k_then_ret ?_
     refine k_block_ret ?_
     refine k_then_ret ?_
     refine r_ret (r_vals [.bool false] ⟨rfl, trivial⟩ ?_)
     have hx := some_inj h
     subst hx
     have hmr : MS wl6 [M] := hms.pick [some 0] _ rfl
     have hsu : ∀ x ∈ fl [M], x ∈ fl [M] := pick_sub [some 0] _ rfl
     exact ⟨rfl, hev⟩
   refine x_u 2 [(39, .slice a_p1 (p1).length c_p1), (40, Vi i_s7_l6)] ?_
   obtain ⟨x10, hx10, h⟩ := bind_some h
   obtain ⟨ad10, cs10, hr10, hc10, hR⟩ := reads_index (Mo := []) tsl22 hs_p1 hx10
   obtain rfl := hR
   refine x_indexAddr (xv := .slice a_p1 (p1).length c_p1) (yv := Vi i_s7_l6) (.pointer (some ad10)) rfl rfl rfl rfl hr10 ?_
   refine x_load (xv := .pointer (some ad10)) (Vi x10) rfl rfl rfl (reads_cell0 tcell3 hc10 (fun _ h => by cases h)) ?_
   refine x_u 2 [(43, .bool (decide (x10 > 400))), (44, .bool (decide (x10 > 400)))] ?_
   refine x_ek ?_
   refine c_norm [(0, .slice a_p0 (p0).length c_p0), (1, .slice a_p1 (p1).length c_p1), (2, .slice a_p2 (p2).length c_p2), (7, Vi i_s7_l6), (44, .bool (decide (x10 > 400)))] ⟨rfl, rfl, rfl, rfl, rfl, trivial⟩ (fun J => ?_)
   refine c_if (decide (x10 > 400)) rfl h (fun h => ?_) (fun h => ?_)
   · refine c_sp ?_
     refine x_u 1 [(6, .bool false)] ?_
     refine x_ek ?_
     refine c_ret ?_
     refine k_block_ret ?_
     refine k_then_ret ?_
     have hx := some_inj h
     subst hx
     have hy := some_inj hn6
     subst hy
     replace h := h6
     refine k_then_ret ?_
     refine k_block_ret ?_
     refine k_then_ret ?_
     refine r_ret (r_vals [.bool false] ⟨rfl, trivial⟩ ?_)
     have hx := some_inj h
     subst hx
     have hmr : MS wl6 [M] := hms.pick [some 0] _ rfl
     have hsu : ∀ x ∈ fl [M], x ∈ fl [M] := pick_sub [some 0] _ rfl
     exact ⟨rfl, hev⟩
   refine c_skip ?_
   refine k_block ?_
   refine k_then ?_
   refine c_plain ?_
   refine x_u 3 [(31, Vi i_s7_l6), (32, Vi (IntKind.i64.wrap (i_s7_l6 + 1))), (7, Vi (IntKind.i64.wrap (i_s7_l6 + 1)))] ?_
   refine x_end rfl ?_
   have hx := some_inj h
   subst hx
   exact k_then ⟨(m6, IntKind.i64.wrap (i_s7_l6 + 1)), ⟨rfl, rfl, rfl, rfl, trivial⟩, ⟨hn6, hev, hms, hfr, hs_p0, hs_p1, hs_p2⟩, Nat.lt_succ_self _⟩
 refine c_exit ?_
 refine k_then_exit ?_
 have hx := some_inj h
 subst hx
 have hy := some_inj hn6
 subst hy
 replace h := h6
 refine k_then_exit ?_
 refine k_block_in ?_
 refine k_then ?_
 refine c_norm [(0, .slice a_p0 (p0).length c_p0), (1, .slice a_p1 (p1).length c_p1), (2, .slice a_p2 (p2).length c_p2)] ⟨rfl, rfl, rfl, trivial⟩ (fun J => ?_)
 refine c_sp ?_
 refine x_u 1 [(45, .slice a_p1 (p1).length c_p1)] ?_
 refine x_len (vs := [.slice a_p1 (p1).length c_p1]) (Vi ((p1).length : Int)) rfl rfl rfl (reads_len tsl22 _ _ _ _ _) ?_
 have hg := guard_l h
 replace h := guard_r h
 obtain ⟨a12, c12, w12, hr12, he12, hn12, hw12⟩ := own_make (e := eBool) tel56 wl6 ((p1).length : Int) hg.1 hg.2 false (fun _ _ => rfl)
 refine x_makeSlice _ w12 (xv := Vi ((p1).length : Int)) (yv := Vi ((p1).length : Int)) rfl rfl rfl rfl hr12 ?_
 refine inl1 ?_
 have hst := Stp.push (ls := [M]) (l := blk a12) he12 (fun _ h => by cases h) (fun b hb => (hn12 b hb).1)
 replace hs_p0 := hs_p0.step hst
 replace hs_p1 := hs_p1.step hst
 replace hs_p2 := hs_p2.step hst
 replace hms := hms.push he12 hn12
 replace hfr := hfr.push (fun b hb => Nat.le_trans hev.size (hn12 b hb).1)
 replace hev := hev.ext he12
 have ho12 := hw12 (fl [blk a12, M])
 clear hw12
 refine x_u 1 [(8, .slice a12 ((List.replicate (Int.toNat ((p1).length : Int)) false : List Bool)).length c12)] ?_
 refine x_ek ?_
 refine c_seq ?_
 refine c_sp ?_
 refine x_u 1 [(9, Vi 0)] ?_
 refine x_ek ?_
 refine c_block ?_
 obtain ⟨d14, hd14, h14⟩ := bind_some h
 obtain ⟨m14, hd14⟩ := loop_some hd14
 refine c_loop (loop_rule hmx (σ := Nat × (List Bool) × Int) (fun s => match s with | (_, d13_l14, v_t_s9_l14) => [(0, .slice a_p0 (p0).length c_p0), (1, .slice a_p1 (p1).length c_p1), (2, .slice a_p2 (p2).length c_p2), (8, .slice a12 (d13_l14).length c12), (9, Vi v_t_s9_l14)]) (fun s w' => match s with | (m, d13_l14, v_t_s9_l14) => loopN (r42_Valid_L14 p0 p1 p2) m (d13_l14, v_t_s9_l14) = some d14 ∧ Ev [] w w' ∧ MS w' [blk a12, M] ∧ FR w.heap.size [blk a12] ∧ SlR (eProd eStr (eInt .i64)) w' (fl [blk a12, M]) a_p0 c_p0 p0 ∧ SlR (eInt .i64) w' (fl [blk a12, M]) a_p1 c_p1 p1 ∧ SlR (eSl (eInt .i64)) w' (fl [blk a12, M]) a_p2 c_p2 p2 ∧ OwnS eBool 4 w' (fl [blk a12, M]) a12 c12 d13_l14) (fun s => s.1) (m14, (List.replicate (Int.toNat ((p1).length : Int)) false : List Bool), 0) ⟨rfl, rfl, rfl, rfl, rfl, trivial⟩ ⟨hd14, hev, hms, hfr, hs_p0, hs_p1, hs_p2, ho12⟩ ?_)
 rintro ⟨m14, d13_l14, v_t_s9_l14⟩ J wl14 ⟨hn14, hev, hms, hfr, hs_p0, hs_p1, hs_p2, ho12⟩
 rcases m14 with _ | m14
 · exact (loopN_zero hn14).elim
 obtain ⟨t14, h, hn14⟩ := bind_some hn14
 refine c_seq ?_
 refine c_sp ?_
 refine x_u 2 [(48, Vi v_t_s9_l14), (49, .slice a_p2 (p2).length c_p2)] ?_
 refine x_len (vs := [.slice a_p2 (p2).length c_p2]) (Vi ((p2).length : Int)) rfl rfl rfl (reads_len tsl26 _ _ _ _ _) ?_
 refine x_u 1 [(51, .bool (decide (v_t_s9_l14 < ((p2).length : Int))))] ?_
 refine x_ek ?_
 refine c_norm [(0, .slice a_p0 (p0).length c_p0), (1, .slice a_p1 (p1).length c_p1), (2, .slice a_p2 (p2).length c_p2), (8, .slice a12 (d13_l14).length c12), (9, Vi v_t_s9_l14), (51, .bool (decide (v_t_s9_l14 < ((p2).length : Int))))] ⟨rfl, rfl, rfl, rfl, rfl, rfl, trivial⟩ (fun J => ?_)
 refine c_if (decide (v_t_s9_l14 < ((p2).length : Int))) rfl h (fun h => ?_) (fun h => ?_)
 · refine c_skip ?_
   refine k_then ?_
   refine c_seq ?_
   refine c_block ?_
   refine c_seq ?_
   refine c_sp ?_
   refine x_u 1 [(10, Vi 0)] ?_
   refine x_ek ?_
   refine c_block ?_
   obtain ⟨d17, hd17, h17⟩ := bind_some h
   obtain ⟨m17, hd17⟩ := loop_some hd17
   refine c_loop (loop_rule hmx (σ := Nat × (List Bool) × Int) (fun s => match s with | (_, d13_l17, i_s10_l17) => [(0, .slice a_p0 (p0).length c_p0), (1, .slice a_p1 (p1).length c_p1), (2, .slice a_p2 (p2).length c_p2), (8, .slice a12 (d13_l17).length c12), (9, Vi v_t_s9_l14), (10, Vi i_s10_l17)]) (fun s w' => match s with | (m, d13_l17, i_s10_l17) => loopN (r42_Valid_L17 p1 p2 v_t_s9_l14) m (d13_l17, i_s10_l17) = some d17 ∧ Ev [] w w' ∧ MS w' [blk a12, M] ∧ FR w.heap.size [blk a12] ∧ SlR (eProd eStr (eInt .i64)) w' (fl [blk a12, M]) a_p0 c_p0 p0 ∧ SlR (eInt .i64) w' (fl [blk a12, M]) a_p1 c_p1 p1 ∧ SlR (eSl (eInt .i64)) w' (fl [blk a12, M]) a_p2 c_p2 p2 ∧ OwnS eBool 4 w' (fl [blk a12, M]) a12 c12 d13_l17) (fun s => s.1) (m17, d13_l14, 0) ⟨rfl, rfl, rfl, rfl, rfl, rfl, trivial⟩ ⟨hd17, hev, hms, hfr, hs_p0, hs_p1, hs_p2, ho12⟩ ?_)
   rintro ⟨m17, d13_l17, i_s10_l17⟩ J wl17 ⟨hn17, hev, hms, hfr, hs_p0, hs_p1, hs_p2, ho12⟩
   rcases m17 with _ | m17
   · exact (loopN_zero hn17).elim
   obtain ⟨t17, h, hn17⟩ := bind_some hn17
   refine c_seq ?_
   refine c_sp ?_
   refine x_u 3 [(54, Vi i_s10_l17), (55, .slice a_p2 (p2).length c_p2), (56, Vi v_t_s9_l14)] ?_
   obtain ⟨x19, hx19, h⟩ := bind_some h
   obtain ⟨ad19, cs19, hr19, hc19, hR⟩ := reads_index (Mo := []) tsl26 hs_p2 hx19
   obtain ⟨a20, c20, rfl, hs20⟩ := hR
   refine x_indexAddr (xv := .slice a_p2 (p2).length c_p2) (yv := Vi v_t_s9_l14) (.pointer (some ad19)) rfl rfl rfl rfl hr19 ?_
   refine x_load (xv := .pointer (some ad19)) (.slice a20 (x19).length c20) rfl rfl rfl (reads_cell0 tcell22 hc19 (fun _ h => by cases h)) ?_
   refine x_len (vs := [.slice a20 (x19).length c20]) (Vi ((x19).length : Int)) rfl rfl rfl (reads_len tsl22 _ _ _ _ _) ?_
   refine x_u 1 [(60, .bool (decide (i_s10_l17 < ((x19).length : Int))))] ?_
   refine x_ek ?_
   refine c_norm [(0, .slice a_p0 (p0).length c_p0), (1, .slice a_p1 (p1).length c_p1), (2, .slice a_p2 (p2).length c_p2), (8, .slice a12 (d13_l17).length c12), (9, Vi v_t_s9_l14), (10, Vi i_s10_l17), (60, .bool (decide (i_s10_l17 < ((x19).length : Int))))] ⟨rfl, rfl, rfl, rfl, rfl, rfl, rfl, trivial⟩ (fun J => ?_)
   refine c_if (decide (i_s10_l17 < ((x19).length : Int))) rfl h (fun h => ?_) (fun h => ?_)
   · refine c_skip ?_
     refine k_then ?_
     refine c_seq ?_
     refine c_block ?_
     refine c_sp ?_
     refine x_u 2 [(63, .slice a_p2 (p2).length c_p2), (64, Vi v_t_s9_l14)] ?_
     obtain ⟨x23, hx23, h⟩ := bind_some h
     obtain ⟨ad23, cs23, hr23, hc23, hR⟩ := reads_index (Mo := []) tsl26 hs_p2 hx23
     obtain ⟨a24, c24, rfl, hs24⟩ := hR
     refine x_indexAddr (xv := .slice a_p2 (p2).length c_p2) (yv := Vi v_t_s9_l14) (.pointer (some ad23)) rfl rfl rfl rfl hr23 ?_
     refine x_load (xv := .pointer (some ad23)) (.slice a24 (x23).length c24) rfl rfl rfl (reads_cell0 tcell22 hc23 (fun _ h => by cases h)) ?_
     refine x_u 1 [(67, Vi i_s10_l17)] ?_
     obtain ⟨x27, hx27, h⟩ := bind_some h
     obtain ⟨ad27, cs27, hr27, hc27, hR⟩ := reads_index (Mo := []) tsl22 hs24 hx27
     obtain rfl := hR
     refine x_indexAddr (xv := .slice a24 (x23).length c24) (yv := Vi i_s10_l17) (.pointer (some ad27)) rfl rfl rfl rfl hr27 ?_
     refine x_load (xv := .pointer (some ad27)) (Vi x27) rfl rfl rfl (reads_cell0 tcell3 hc27 (fun _ h => by cases h)) ?_
     refine x_u 1 [(11, Vi x27)] ?_
     refine x_ek ?_
     refine c_seq ?_
     refine c_sp ?_
     refine x_u 3 [(70, Vi x27), (71, .bool (decide (x27 < 0))), (72, .bool (decide (x27 < 0)))] ?_
     refine x_if 72 (decide (x27 < 0)) rfl h (fun h => ?_) (fun h => ?_)
     · refine x_u 11 [(73, undef), (74, undef), (75, undef), (76, undef), (77, .bool true), (78, .bool true), (79, undef), (80, undef), (81, undef), (82, undef), (83, .bool true)] ?_
       refine x_ek ?_
       refine c_norm [(0, .slice a_p0 (p0).length c_p0), (1, .slice a_p1 (p1).length c_p1), (2, .slice a_p2 (p2).length c_p2), (8, .slice a12 (d13_l17).length c12), (9, Vi v_t_s9_l14), (10, Vi i_s10_l17), (11, Vi x27), (83, .bool true)] ⟨rfl, rfl, rfl, rfl, rfl, rfl, rfl, rfl, trivial⟩ (fun J => ?_)
       refine c_true rfl ?_
       refine c_sp ?_
       refine x_u 1 [(6, .bool false)] ?_
       refine x_ek ?_
       refine c_ret ?_
       refine k_then_ret ?_
       refine k_block_ret ?_
       refine k_then_ret ?_
       have hx := some_inj h
       subst hx
       have hy := some_inj hn17
       subst hy
       replace h := h17
       refine k_then_ret ?_
       refine k_block_ret ?_
       refine k_then_ret ?_
       refine k_block_ret ?_
       refine k_then_ret ?_
       have hx := some_inj h
       subst hx
       have hy := some_inj hn14
       subst hy
       replace h := h14
       refine k_then_ret ?_
       refine k_block_ret ?_
       refine k_then_ret ?_
       refine r_ret (r_vals [.bool false] ⟨rfl, trivial⟩ ?_)
       have hx := some_inj h
       subst hx
       have hmr : MS wl17 [M] := hms.pick [some 1] _ rfl
       have hsu : ∀ x ∈ fl [M], x ∈ fl [blk a12, M] := pick_sub [some 1] _ rfl
       exact ⟨rfl, hev⟩
     refine x_u 2 [(73, Vi x27), (74, .slice a_p1 (p1).length c_p1)] ?_
     refine x_len (vs := [.slice a_p1 (p1).length c_p1]) (Vi ((p1).length : Int)) rfl rfl rfl (reads_len tsl22 _ _ _ _ _) ?_
     refine x_u 3 [(76, .bool (decide (x27 ≥ ((p1).length : Int)))), (77, .bool (decide (x27 ≥ ((p1).length : Int)))), (78, .bool (decide (x27 ≥ ((p1).length : Int))))] ?_
     refine x_if 78 (decide (x27 ≥ ((p1).length : Int))) rfl h (fun h => ?_) (fun h => ?_)
     · refine x_u 5 [(79, undef), (80, undef), (81, undef), (82, undef), (83, .bool true)] ?_
       refine x_ek ?_
       refine c_norm [(0, .slice a_p0 (p0).length c_p0), (1, .slice a_p1 (p1).length c_p1), (2, .slice a_p2 (p2).length c_p2), (8, .slice a12 (d13_l17).length c12), (9, Vi v_t_s9_l14), (10, Vi i_s10_l17), (11, Vi x27), (83, .bool true)] ⟨rfl, rfl, rfl, rfl, rfl, rfl, rfl, rfl, trivial⟩ (fun J => ?_)
       refine c_true rfl ?_
       refine c_sp ?_
       refine x_u 1 [(6, .bool false)] ?_
       refine x_ek ?_
       refine c_ret ?_
       refine k_then_ret ?_
       refine k_block_ret ?_
       refine k_then_ret ?_
       have hx := some_inj h
       subst hx
       have hy := some_inj hn17
       subst hy
       replace h := h17
       refine k_then_ret ?_
       refine k_block_ret ?_
       refine k_then_ret ?_
       refine k_block_ret ?_
       refine k_then_ret ?_
       have hx := some_inj h
       subst hx
       have hy := some_inj hn14
       subst hy
       replace h := h14
       refine k_then_ret ?_
       refine k_block_ret ?_
       refine k_then_ret ?_
       refine r_ret (r_vals [.bool false] ⟨rfl, trivial⟩ ?_)
       have hx := some_inj h
       subst hx
       have hmr : MS wl17 [M] := hms.pick [some 1] _ rfl
       have hsu : ∀ x ∈ fl [M], x ∈ fl [blk a12, M] := pick_sub [some 1] _ rfl
       exact ⟨rfl, hev⟩
     refine x_u 2 [(79, .slice a12 (d13_l17).length c12), (80, Vi x27)] ?_
     obtain ⟨x29, hx29, h⟩ := bind_some h
     obtain ⟨g29, cs29, ha29, hr29, hc29, hR⟩ := own_index (Mo := []) tsl56 ho12 hx29
     obtain rfl := hR
     refine x_indexAddr (xv := .slice a12 (d13_l17).length c12) (yv := Vi x27) (.pointer (some ⟨g29, (Int.toNat x27) * eBool.n, none⟩)) rfl rfl rfl rfl hr29 ?_
     refine x_load (xv := .pointer (some ⟨g29, (Int.toNat x27) * eBool.n, none⟩)) (.bool x29) rfl rfl rfl (reads_cell0 tcell4 hc29 (fun _ h => by cases h)) ?_
     refine x_u 1 [(83, .bool x29)] ?_
     refine x_ek ?_
     refine c_norm [(0, .slice a_p0 (p0).length c_p0), (1, .slice a_p1 (p1).length c_p1), (2, .slice a_p2 (p2).length c_p2), (8, .slice a12 (d13_l17).length c12), (9, Vi v_t_s9_l14), (10, Vi i_s10_l17), (11, Vi x27), (83, .bool x29)] ⟨rfl, rfl, rfl, rfl, rfl, rfl, rfl, rfl, trivial⟩ (fun J => ?_)
     refine c_if x29 rfl h (fun h => ?_) (fun h => ?_)
     · refine c_sp ?_
       refine x_u 1 [(6, .bool false)] ?_
       refine x_ek ?_
       refine c_ret ?_
       refine k_then_ret ?_
       refine k_block_ret ?_
       refine k_then_ret ?_
       have hx := some_inj h
       subst hx
       have hy := some_inj hn17
       subst hy
       replace h := h17
       refine k_then_ret ?_
       refine k_block_ret ?_
       refine k_then_ret ?_
       refine k_block_ret ?_
       refine k_then_ret ?_
       have hx := some_inj h
       subst hx
       have hy := some_inj hn14
       subst hy
       replace h := h14
       refine k_then_ret ?_
       refine k_block_ret ?_
       refine k_then_ret ?_
       refine r_ret (r_vals [.bool false] ⟨rfl, trivial⟩ ?_)
       have hx := some_inj h
       subst hx
       have hmr : MS wl17 [M] := hms.pick [some 1] _ rfl
       have hsu : ∀ x ∈ fl [M], x ∈ fl [blk a12, M] := pick_sub [some 1] _ rfl
       exact ⟨rfl, hev⟩
     refine c_skip ?_
     refine k_then ?_
     refine c_plain ?_
     refine x_u 2 [(84, .slice a12 (d13_l17).length c12), (85, Vi x27)] ?_
     obtain ⟨x31, hx31, h⟩ := bind_some h
     obtain ⟨g31, cs31, ha31, hr31, hc31, hR⟩ := own_index (Mo := []) tsl56 ho12 hx31
     obtain rfl := hR
     refine x_indexAddr (xv := .slice a12 (d13_l17).length c12) (yv := Vi x27) (.pointer (some ⟨g31, (Int.toNat x27) * eBool.n, none⟩)) rfl rfl rfl rfl hr31 ?_
     obtain ⟨w33, hr33, he33, ho33⟩ := own_storeE ha31 (y := true) 0 (.bool true) tcell4 ho12 (mem_flat 0 rfl) hx31 rfl rfl (fun _ _ _ hR => set_bool hR)
     refine x_store w33 (xv := .pointer (some ⟨g31, (Int.toNat x27) * eBool.n, none⟩)) (yv := .bool true) rfl rfl rfl rfl hr33 ?_
     refine inl1 ?_
     have hst := Stp.ev' (ls := [blk a12, M]) he33 (mem_flat 0 rfl)
     replace hs_p0 := hs_p0.step hst
     replace hs_p1 := hs_p1.step hst
     replace hs_p2 := hs_p2.step hst
     replace hms := hms.ev he33
     replace hev := hev.then he33 (fun b hb => .inr (hfr.at 0 rfl b hb))
     replace ho12 := ho33
     have hsl : (Value.slice a12 (d13_l17).length c12) = (Value.slice a12 ((d13_l17.set (Int.toNat x27) true)).length c12) := by first | (rw [List.length_set]; done) | simp only [List.length_set]
     try rw [hsl]
     clear hsl
     refine x_end rfl ?_
     refine k_block ?_
     refine k_then ?_
     refine c_plain ?_
     refine x_u 3 [(61, Vi i_s10_l17), (62, Vi (IntKind.i64.wrap (i_s10_l17 + 1))), (10, Vi (IntKind.i64.wrap (i_s10_l17 + 1)))] ?_
     refine x_end rfl ?_
     have hx := some_inj h
     subst hx
     exact k_then ⟨(m17, (d13_l17.set (Int.toNat x27) true), IntKind.i64.wrap (i_s10_l17 + 1)), ⟨rfl, rfl, rfl, rfl, rfl, rfl, trivial⟩, ⟨hn17, hev, hms, hfr, hs_p0, hs_p1, hs_p2, ho12⟩, Nat.lt_succ_self _⟩
   refine c_exit ?_
   refine k_then_exit ?_
   have hx := some_inj h
   subst hx
   have hy := some_inj hn17
   subst hy
   replace h := h17
   refine k_then_exit ?_
   refine k_block_in ?_
   refine k_then ?_
   refine c_norm [(0, .slice a_p0 (p0).length c_p0), (1, .slice a_p1 (p1).length c_p1), (2, .slice a_p2 (p2).length c_p2), (8, .slice a12 (d13_l17).length c12), (9, Vi v_t_s9_l14)] ⟨rfl, rfl, rfl, rfl, rfl, trivial⟩ (fun J => ?_)
   refine c_seq ?_
   refine c_drawn [] [(0, false), (1, false), (2, false), (3, false), (4, false), (5, false), (6, false), (7, false), (8, false), (9, false), (10, false), (11, false), (12, false), (13, false), (14, false), (15, false), (16, false), (17, false), (18, false), (19, false), (21, false), (22, false), (23, false), (24, false), (25, false), (20, false), (26, false), (27, false)] _ (by kernel_rfl) rfl ?_
   have hst := Stp.ext (ls := [blk a12, M]) (Ev.drew wl17)
   replace hs_p0 := hs_p0.step hst
   replace hs_p1 := hs_p1.step hst
   replace hs_p2 := hs_p2.step hst
   replace ho12 := ho12.step hst (Ev.drew wl17) nn2
   replace hms := hms.ev (Ev.drew wl17)
   replace hev := hev.ext (Ev.drew wl17)
   refine x_u 2 [(87, .slice a_p0 (p0).length c_p0), (88, Vi v_t_s9_l14)] ?_
   obtain ⟨x34, hx34, h⟩ := bind_some h
   obtain ⟨ad34, cs34, hr34, hc34, hR⟩ := reads_index (Mo := []) tsl25 hs_p0 hx34
   obtain ⟨_, _, rfl, rfl, rfl⟩ := hR
   refine x_indexAddr (xv := .slice a_p0 (p0).length c_p0) (yv := Vi v_t_s9_l14) (.pointer (some ad34)) rfl rfl rfl rfl hr34 ?_
   refine x_fieldAddr (xv := .pointer (some ad34)) (.pointer (some (Addr.add ad34 1))) rfl rfl rfl (reads_field tfld45_1 _ _) ?_
   refine x_load (xv := .pointer (some (Addr.add ad34 1))) (Vi x34.2) rfl rfl rfl (reads_cell tcell3 hc34 (fun _ h => by cases h) 1 _ rfl) ?_
   refine x_u 2 [(92, .bool (decide (x34.2 < 0))), (93, .bool (decide (x34.2 < 0)))] ?_
   refine x_if 93 (decide (x34.2 < 0)) rfl h (fun h => ?_) (fun h => ?_)
   · refine x_u 21 [(94, undef), (95, undef), (96, undef), (97, undef), (98, undef), (99, undef), (100, .bool true), (101, .bool true), (102, undef), (103, undef), (104, undef), (105, undef), (106, undef), (108, undef), (109, undef), (110, undef), (111, undef), (112, undef), (107, undef), (113, undef), (114, .bool true)] ?_
     refine x_ek ?_
     refine c_norm [(0, .slice a_p0 (p0).length c_p0), (1, .slice a_p1 (p1).length c_p1), (2, .slice a_p2 (p2).length c_p2), (8, .slice a12 (d13_l17).length c12), (9, Vi v_t_s9_l14), (114, .bool true)] ⟨rfl, rfl, rfl, rfl, rfl, rfl, trivial⟩ (fun J => ?_)
     refine c_true rfl ?_
     refine c_sp ?_
     refine x_u 1 [(6, .bool false)] ?_
     refine x_ek ?_
     refine c_ret ?_
     refine k_block_ret ?_
     refine k_then_ret ?_
     have hx := some_inj h
     subst hx
     have hy := some_inj hn14
     subst hy
     replace h := h14
     refine k_then_ret ?_
     refine k_block_ret ?_
     refine k_then_ret ?_
     refine r_ret (r_vals [.bool false] ⟨rfl, trivial⟩ ?_)
     have hx := some_inj h
     subst hx
     have hmr : MS (wl17).drew [M] := hms.pick [some 1] _ rfl
     have hsu : ∀ x ∈ fl [M], x ∈ fl [blk a12, M] := pick_sub [some 1] _ rfl
     exact ⟨rfl, hev⟩
   refine x_u 2 [(94, .slice a_p0 (p0).length c_p0), (95, Vi v_t_s9_l14)] ?_
   obtain ⟨x36, hx36, h⟩ := bind_some h
   obtain ⟨ad36, cs36, hr36, hc36, hR⟩ := reads_index (Mo := []) tsl25 hs_p0 hx36
   obtain ⟨_, _, rfl, rfl, rfl⟩ := hR
   refine x_indexAddr (xv := .slice a_p0 (p0).length c_p0) (yv := Vi v_t_s9_l14) (.pointer (some ad36)) rfl rfl rfl rfl hr36 ?_
   refine x_fieldAddr (xv := .pointer (some ad36)) (.pointer (some (Addr.add ad36 1))) rfl rfl rfl (reads_field tfld45_1 _ _) ?_
   refine x_load (xv := .pointer (some (Addr.add ad36 1))) (Vi x36.2) rfl rfl rfl (reads_cell tcell3 hc36 (fun _ h => by cases h) 1 _ rfl) ?_
   refine x_u 3 [(99, .bool (decide (x36.2 > 100000))), (100, .bool (decide (x36.2 > 100000))), (101, .bool (decide (x36.2 > 100000)))] ?_
   refine x_if 101 (decide (x36.2 > 100000)) rfl h (fun h => ?_) (fun h => ?_)
   · refine x_u 13 [(102, undef), (103, undef), (104, undef), (105, undef), (106, undef), (108, undef), (109, undef), (110, undef), (111, undef), (112, undef), (107, undef), (113, undef), (114, .bool true)] ?_
     refine x_ek ?_
     refine c_norm [(0, .slice a_p0 (p0).length c_p0), (1, .slice a_p1 (p1).length c_p1), (2, .slice a_p2 (p2).length c_p2), (8, .slice a12 (d13_l17).length c12), (9, Vi v_t_s9_l14), (114, .bool true)] ⟨rfl, rfl, rfl, rfl, rfl, rfl, trivial⟩ (fun J => ?_)
     refine c_true rfl ?_
     refine c_sp ?_
     refine x_u 1 [(6, .bool false)] ?_
     refine x_ek ?_
     refine c_ret ?_
     refine k_block_ret ?_
     refine k_then_ret ?_
     have hx := some_inj h
     subst hx
     have hy := some_inj hn14
     subst hy
     replace h := h14
     refine k_then_ret ?_
     refine k_block_ret ?_
     refine k_then_ret ?_
     refine r_ret (r_vals [.bool false] ⟨rfl, trivial⟩ ?_)
     have hx := some_inj h
     subst hx
     have hmr : MS (wl17).drew [M] := hms.pick [some 1] _ rfl
     have hsu : ∀ x ∈ fl [M], x ∈ fl [blk a12, M] := pick_sub [some 1] _ rfl
     exact ⟨rfl, hev⟩
   refine x_u 3 [(102, .slice a_p1 (p1).length c_p1), (103, .slice a_p2 (p2).length c_p2), (104, Vi v_t_s9_l14)] ?_
   obtain ⟨x38, hx38, h⟩ := bind_some h
   obtain ⟨ad38, cs38, hr38, hc38, hR⟩ := reads_index (Mo := []) tsl26 hs_p2 hx38
   obtain ⟨a39, c39, rfl, hs39⟩ := hR
   refine x_indexAddr (xv := .slice a_p2 (p2).length c_p2) (yv := Vi v_t_s9_l14) (.pointer (some ad38)) rfl rfl rfl rfl hr38 ?_
   refine x_load (xv := .pointer (some ad38)) (.slice a39 (x38).length c39) rfl rfl rfl (reads_cell0 tcell22 hc38 (fun _ h => by cases h)) ?_
   refine x_u 2 [(108, .slice a_p0 (p0).length c_p0), (109, Vi v_t_s9_l14)] ?_
   obtain ⟨x42, hx42, h⟩ := bind_some h
   obtain ⟨ad42, cs42, hr42, hc42, hR⟩ := reads_index (Mo := []) tsl25 hs_p0 hx42
   obtain ⟨_, _, rfl, rfl, rfl⟩ := hR
   refine x_indexAddr (xv := .slice a_p0 (p0).length c_p0) (yv := Vi v_t_s9_l14) (.pointer (some ad42)) rfl rfl rfl rfl hr42 ?_
   refine x_fieldAddr (xv := .pointer (some ad42)) (.pointer (some (Addr.add ad42 1))) rfl rfl rfl (reads_field tfld45_1 _ _) ?_
   refine x_load (xv := .pointer (some (Addr.add ad42 1))) (Vi x42.2) rfl rfl rfl (reads_cell tcell3 hc42 (fun _ h => by cases h) 1 _ rfl) ?_
   obtain ⟨x44, hx, h⟩ := bind_some h
   have hpk : MS (wl17).drew ([] ++ [blk a12, M]) := hms.pick [some 0, some 1] _ rfl
   have hsb0 : ∀ x ∈ fl ([] ++ [blk a12, M]), x ∈ fl [blk a12, M] := pick_sub [some 0, some 1] _ rfl
   have hsb : ∀ x ∈ fl ([] ++ [(fl [blk a12, M])]), x ∈ fl [blk a12, M] := fun x hx => hsb0 x (fl_unfold x hx)
   have hcall := r42_sum_w a_p1 c_p1 p1 a39 c39 x38 _ (wl17).drew (fl [blk a12, M]) (MS.fold (P := []) hpk) (hs_p1.sub hsb) (hs39.sub hsb) hx
   refine x_call 31 #[] #[] [.slice a_p1 (p1).length c_p1, .slice a39 (x38).length c39] _ rfl rfl rfl rfl hcall ?_
   rintro v w45 ⟨rfl, he45⟩
   clear hcall hx
   refine ⟨.inr he45, ?_⟩
   have hst := Stp.ext (ls := [blk a12, M]) he45
   replace hs_p0 := hs_p0.step hst
   replace hs_p1 := hs_p1.step hst
   replace hs_p2 := hs_p2.step hst
   replace ho12 := ho12.step hst he45 nn2
   replace hc34 := hc34.step hst
   replace hc36 := hc36.step hst
   replace hs39 := hs39.step hst
   replace hc38 := hc38.step hst
   replace hc42 := hc42.step hst
   replace hms := hms.ev he45
   replace hev := hev.ext he45
   clear hpk hsb hsb0
   refine x_u 2 [(113, .bool (decide (x44 > x42.2))), (114, .bool (decide (x44 > x42.2)))] ?_
   refine x_ek ?_
   refine c_norm [(0, .slice a_p0 (p0).length c_p0), (1, .slice a_p1 (p1).length c_p1), (2, .slice a_p2 (p2).length c_p2), (8, .slice a12 (d13_l17).length c12), (9, Vi v_t_s9_l14), (114, .bool (decide (x44 > x42.2)))] ⟨rfl, rfl, rfl, rfl, rfl, rfl, trivial⟩ (fun J => ?_)
   refine c_if (decide (x44 > x42.2)) rfl h (fun h => ?_) (fun h => ?_)
   · refine c_sp ?_
     refine x_u 1 [(6, .bool false)] ?_
     refine x_ek ?_
     refine c_ret ?_
     refine k_block_ret ?_
     refine k_then_ret ?_
     have hx := some_inj h
     subst hx
     have hy := some_inj hn14
     subst hy
     replace h := h14
     refine k_then_ret ?_
     refine k_block_ret ?_
     refine k_then_ret ?_
     refine r_ret (r_vals [.bool false] ⟨rfl, trivial⟩ ?_)
     have hx := some_inj h
     subst hx
     have hmr : MS w45 [M] := hms.pick [some 1] _ rfl
     have hsu : ∀ x ∈ fl [M], x ∈ fl [blk a12, M] := pick_sub [some 1] _ rfl
     exact ⟨rfl, hev⟩
   refine c_skip ?_
   refine k_block ?_
   refine k_then ?_
   refine c_plain ?_
   refine x_u 3 [(52, Vi v_t_s9_l14), (53, Vi (IntKind.i64.wrap (v_t_s9_l14 + 1))), (9, Vi (IntKind.i64.wrap (v_t_s9_l14 + 1)))] ?_
   refine x_end rfl ?_
   have hx := some_inj h
   subst hx
   exact k_then ⟨(m14, d13_l17, IntKind.i64.wrap (v_t_s9_l14 + 1)), ⟨rfl, rfl, rfl, rfl, rfl, trivial⟩, ⟨hn14, hev, hms, hfr, hs_p0, hs_p1, hs_p2, ho12⟩, Nat.lt_succ_self _⟩
 refine c_exit ?_
 refine k_then_exit ?_
 have hx := some_inj h
 subst hx
 have hy := some_inj hn14
 subst hy
 replace h := h14
 refine k_then_exit ?_
 refine k_block_in ?_
 refine k_then ?_
 refine c_norm [] trivial (fun J => ?_)
 refine c_sp ?_
 refine x_u 1 [(6, .bool true)] ?_
 refine x_ek ?_
 refine c_ret ?_
 refine r_ret (r_vals [.bool true] ⟨rfl, trivial⟩ ?_)
 have hx := some_inj h
 subst hx
 have hmr : MS wl14 [M] := hms.pick [some 1] _ rfl
 have hsu : ∀ x ∈ fl [M], x ∈ fl [blk a12, M] := pick_sub [some 1] _ rfl
 exact ⟨rfl, hev⟩
def r42_Where_L4 (p0 : List (List Int)) (p1 : Int) (v_t_s6_l2 : Int) (s : Int) : Option (Step Int (Int ⊕ Unit)) :=
match s with
| i_s7_l4 =>
((idx p0 v_t_s6_l2).bind fun x6 =>
(if (decide (i_s7_l4 < ((x6).length : Int))) = true then
((idx p0 v_t_s6_l2).bind fun x10 =>
((idx x10 i_s7_l4).bind fun x14 =>
(if (x14 == p1) = true then
some (.done (.inl i_s7_l4))
else
some (.next (IntKind.i64.wrap (i_s7_l4 + 1))))))
else
some (.done (.inr ()))))

def r42_Where_L2 (p0 : List (List Int)) (p1 : Int) (s : Int) : Option (Step Int ((Int × Int) ⊕ Unit)) :=
match s with
| v_t_s6_l2 =>
(if (decide (v_t_s6_l2 < ((p0).length : Int))) = true then
((loop (r42_Where_L4 p0 p1 v_t_s6_l2) 0).bind fun d => match d with
| (.inl t5__s5_x400) => some (.done (.inl (v_t_s6_l2, t5__s5_x400)))
| (.inr _) => some (.next (IntKind.i64.wrap (v_t_s6_l2 + 1))))
else
some (.done (.inr ())))

def r42_Where (p0 : List (List Int)) (p1 : Int) : Option (Int × Int) :=
((loop (r42_Where_L2 p0 p1) 0).bind fun d => match d with
| (.inl (t4__s4_x200, t5__s5_x200)) => some (t4__s4_x200, t5__s5_x200)
| (.inr _) => some ((-1), (-1)))

theorem r42_Where_w (a_p0 : Option Addr) (c_p0 : Nat) (p0 : List (List Int)) (p1 : Int) (r : Int × Int) (w : World) (M : List Nat) (hms : MS w [M]) (hs_p0 : SlR (eSl (eInt .i64)) w (fl [M]) a_p0 c_p0 p0) (h : r42_Where p0 p1 = some r) : CallVC Try.prog 21 [Vl a_p0 p0 c_p0, Vi p1] w fun v w' => v = .tuple #[Vi r.1, Vi r.2] ∧ Ev [] w w' := by
 refine calls_vc hmx Try.func21 (by kernel_rfl) rfl (rs := [.tmp 4, .tmp 5]) rfl (by kernel_rfl) (args := [Vl a_p0 p0 c_p0, Vi p1]) rfl ?_
 have hev : Ev [] w w := Ev.refl _ _
 have hfr : FR w.heap.size [] := FR.nil _
 refine c_sp ?_
 refine x_u 2 [(4, Vi 0), (5, Vi 0)] ?_
 refine x_ek ?_
 refine c_seq ?_
 refine c_sp ?_
 refine x_u 1 [(6, Vi 0)] ?_
 refine x_ek ?_
 refine c_block ?_
 obtain ⟨d2, hd2, h2⟩ := bind_some h
 obtain ⟨m2, hd2⟩ := loop_some hd2
 refine c_loop (loop_rule hmx (σ := Nat × Int) (fun s => match s with | (_, v_t_s6_l2) => [(0, Vl a_p0 p0 c_p0), (1, Vi p1), (6, Vi v_t_s6_l2)]) (fun s w' => match s with | (m, v_t_s6_l2) => loopN (r42_Where_L2 p0 p1) m v_t_s6_l2 = some d2 ∧ Ev [] w w' ∧ MS w' [M] ∧ FR w.heap.size [] ∧ SlR (eSl (eInt .i64)) w' (fl [M]) a_p0 c_p0 p0) (fun s => s.1) (m2, 0) ⟨rfl, rfl, rfl, trivial⟩ ⟨hd2, hev, hms, hfr, hs_p0⟩ ?_)
 rintro ⟨m2, v_t_s6_l2⟩ J wl2 ⟨hn2, hev, hms, hfr, hs_p0⟩
 rcases m2 with _ | m2
 · exact (loopN_zero hn2).elim
 obtain ⟨t2, h, hn2⟩ := bind_some hn2
 refine c_seq ?_
 refine c_sp ?_
 refine x_u 2 [(8, Vi v_t_s6_l2), (9, Vl a_p0 p0 c_p0)] ?_
 refine x_len (vs := [Vl a_p0 p0 c_p0]) (Vi ((p0).length : Int)) rfl rfl rfl (reads_len tsl26 _ _ _ _ _) ?_
 refine x_u 1 [(11, .bool (decide (v_t_s6_l2 < ((p0).length : Int))))] ?_
 refine x_ek ?_
 refine c_norm [(0, Vl a_p0 p0 c_p0), (1, Vi p1), (6, Vi v_t_s6_l2), (11, .bool (decide (v_t_s6_l2 < ((p0).length : Int))))] ⟨rfl, rfl, rfl, rfl, trivial⟩ (fun J => ?_)
 refine c_if (decide (v_t_s6_l2 < ((p0).length : Int))) rfl h (fun h => ?_) (fun h => ?_)
 · refine c_skip ?_
   refine k_then ?_
   refine c_seq ?_
   refine c_block ?_
   refine c_sp ?_
   refine x_u 1 [(7, Vi 0)] ?_
   refine x_ek ?_
   refine c_block ?_
   obtain ⟨d4, hd4, h4⟩ := bind_some h
   obtain ⟨m4, hd4⟩ := loop_some hd4
   refine c_loop (loop_rule hmx (σ := Nat × Int) (fun s => match s with | (_, i_s7_l4) => [(0, Vl a_p0 p0 c_p0), (1, Vi p1), (6, Vi v_t_s6_l2), (7, Vi i_s7_l4)]) (fun s w' => match s with | (m, i_s7_l4) => loopN (r42_Where_L4 p0 p1 v_t_s6_l2) m i_s7_l4 = some d4 ∧ Ev [] w w' ∧ MS w' [M] ∧ FR w.heap.size [] ∧ SlR (eSl (eInt .i64)) w' (fl [M]) a_p0 c_p0 p0) (fun s => s.1) (m4, 0) ⟨rfl, rfl, rfl, rfl, trivial⟩ ⟨hd4, hev, hms, hfr, hs_p0⟩ ?_)
   rintro ⟨m4, i_s7_l4⟩ J wl4 ⟨hn4, hev, hms, hfr, hs_p0⟩
   rcases m4 with _ | m4
   · exact (loopN_zero hn4).elim
   obtain ⟨t4, h, hn4⟩ := bind_some hn4
   refine c_seq ?_
   refine c_sp ?_
   refine x_u 3 [(14, Vi i_s7_l4), (15, Vl a_p0 p0 c_p0), (16, Vi v_t_s6_l2)] ?_
   obtain ⟨x6, hx6, h⟩ := bind_some h
   obtain ⟨ad6, cs6, hr6, hc6, hR⟩ := reads_index (Mo := []) tsl26 hs_p0 hx6
   obtain ⟨a7, c7, rfl, hs7⟩ := hR
   refine x_indexAddr (xv := Vl a_p0 p0 c_p0) (yv := Vi v_t_s6_l2) (.pointer (some ad6)) rfl rfl rfl rfl hr6 ?_
   refine x_load (xv := .pointer (some ad6)) (Vl a7 x6 c7) rfl rfl rfl (reads_cell0 tcell22 hc6 (fun _ h => by cases h)) ?_
   refine x_len (vs := [Vl a7 x6 c7]) (Vi ((x6).length : Int)) rfl rfl rfl (reads_len tsl22 _ _ _ _ _) ?_
   refine x_u 1 [(20, .bool (decide (i_s7_l4 < ((x6).length : Int))))] ?_
   refine x_ek ?_
   refine c_norm [(0, Vl a_p0 p0 c_p0), (1, Vi p1), (6, Vi v_t_s6_l2), (7, Vi i_s7_l4), (20, .bool (decide (i_s7_l4 < ((x6).length : Int))))] ⟨rfl, rfl, rfl, rfl, rfl, trivial⟩ (fun J => ?_)
   refine c_if (decide (i_s7_l4 < ((x6).length : Int))) rfl h (fun h => ?_) (fun h => ?_)
   · refine c_skip ?_
     refine k_then ?_
     refine c_seq ?_
     refine c_block ?_
     refine c_sp ?_
     refine x_u 2 [(23, Vl a_p0 p0 c_p0), (24, Vi v_t_s6_l2)] ?_
     obtain ⟨x10, hx10, h⟩ := bind_some h
     obtain ⟨ad10, cs10, hr10, hc10, hR⟩ := reads_index (Mo := []) tsl26 hs_p0 hx10
     obtain ⟨a11, c11, rfl, hs11⟩ := hR
     refine x_indexAddr (xv := Vl a_p0 p0 c_p0) (yv := Vi v_t_s6_l2) (.pointer (some ad10)) rfl rfl rfl rfl hr10 ?_
     refine x_load (xv := .pointer (some ad10)) (Vl a11 x10 c11) rfl rfl rfl (reads_cell0 tcell22 hc10 (fun _ h => by cases h)) ?_
     refine x_u 1 [(27, Vi i_s7_l4)] ?_
     obtain ⟨x14, hx14, h⟩ := bind_some h
     obtain ⟨ad14, cs14, hr14, hc14, hR⟩ := reads_index (Mo := []) tsl22 hs11 hx14
     obtain rfl := hR
     refine x_indexAddr (xv := Vl a11 x10 c11) (yv := Vi i_s7_l4) (.pointer (some ad14)) rfl rfl rfl rfl hr14 ?_
     refine x_load (xv := .pointer (some ad14)) (Vi x14) rfl rfl rfl (reads_cell0 tcell3 hc14 (fun _ h => by cases h)) ?_
     refine x_u 2 [(30, Vi p1), (31, .bool (x14 == p1))] ?_
     refine x_ek ?_
     refine c_if (x14 == p1) rfl h (fun h => ?_) (fun h => ?_)
     · refine c_sp ?_
       refine x_u 4 [(32, Vi v_t_s6_l2), (33, Vi i_s7_l4), (4, Vi v_t_s6_l2), (5, Vi i_s7_l4)] ?_
       refine x_ek ?_
       refine c_norm [(4, Vi v_t_s6_l2), (5, Vi i_s7_l4)] ⟨rfl, rfl, trivial⟩ (fun J => ?_)
       refine c_ret ?_
       refine k_block_ret ?_
       refine k_then_ret ?_
       have hx := some_inj h
       subst hx
       have hy := some_inj hn4
       subst hy
       replace h := h4
       refine k_then_ret ?_
       refine k_block_ret ?_
       refine k_block_ret ?_
       refine k_then_ret ?_
       have hx := some_inj h
       subst hx
       have hy := some_inj hn2
       subst hy
       replace h := h2
       refine k_then_ret ?_
       refine k_block_ret ?_
       refine k_then_ret ?_
       refine r_ret (r_vals [Vi v_t_s6_l2, Vi i_s7_l4] ⟨rfl, rfl, trivial⟩ ?_)
       have hx := some_inj h
       subst hx
       have hmr : MS wl4 [M] := hms.pick [some 0] _ rfl
       have hsu : ∀ x ∈ fl [M], x ∈ fl [M] := pick_sub [some 0] _ rfl
       exact ⟨rfl, hev⟩
     refine c_skip ?_
     refine k_block ?_
     refine k_then ?_
     refine c_plain ?_
     refine x_u 3 [(21, Vi i_s7_l4), (22, Vi (IntKind.i64.wrap (i_s7_l4 + 1))), (7, Vi (IntKind.i64.wrap (i_s7_l4 + 1)))] ?_
     refine x_end rfl ?_
     have hx := some_inj h
     subst hx
     exact k_then ⟨(m4, IntKind.i64.wrap (i_s7_l4 + 1)), ⟨rfl, rfl, rfl, rfl, trivial⟩, ⟨hn4, hev, hms, hfr, hs_p0⟩, Nat.lt_succ_self _⟩
   refine c_exit ?_
   refine k_then_exit ?_
   have hx := some_inj h
   subst hx
   have hy := some_inj hn4
   subst hy
   replace h := h4
   refine k_then_exit ?_
   refine k_block_in ?_
   refine k_block ?_
   refine k_then ?_
   refine c_norm [(0, Vl a_p0 p0 c_p0), (1, Vi p1), (6, Vi v_t_s6_l2)] ⟨rfl, rfl, rfl, trivial⟩ (fun J => ?_)
   refine c_plain ?_
   refine x_u 3 [(12, Vi v_t_s6_l2), (13, Vi (IntKind.i64.wrap (v_t_s6_l2 + 1))), (6, Vi (IntKind.i64.wrap (v_t_s6_l2 + 1)))] ?_
   refine x_end rfl ?_
   have hx := some_inj h
   subst hx
   exact k_then ⟨(m2, IntKind.i64.wrap (v_t_s6_l2 + 1)), ⟨rfl, rfl, rfl, trivial⟩, ⟨hn2, hev, hms, hfr, hs_p0⟩, Nat.lt_succ_self _⟩
 refine c_exit ?_
 refine k_then_exit ?_
 have hx := some_inj h
 subst hx
 have hy := some_inj hn2
 subst hy
 replace h := h2
 refine k_then_exit ?_
 refine k_block_in ?_
 refine k_then ?_
 refine c_norm [] trivial (fun J => ?_)
 refine c_sp ?_
 refine x_u 2 [(4, Vi (-1)), (5, Vi (-1))] ?_
 refine x_ek ?_
 refine c_ret ?_
 refine r_ret (r_vals [Vi (-1), Vi (-1)] ⟨rfl, rfl, trivial⟩ ?_)
 have hx := some_inj h
 subst hx
 have hmr : MS wl2 [M] := hms.pick [some 0] _ rfl
 have hsu : ∀ x ∈ fl [M], x ∈ fl [M] := pick_sub [some 0] _ rfl
 exact ⟨rfl, hev⟩
end Go.Proofs.Ytgeceohdppecgaa
