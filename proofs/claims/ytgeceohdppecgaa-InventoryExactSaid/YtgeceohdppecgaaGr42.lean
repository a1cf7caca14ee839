
/- Walks, printed by program: each function returns what the partial function of the same name returns. Conditions: those of each theorem. -/
import Derived.Test.YtgeceohdppecgaaGT
set_option linter.unusedVariables false
set_option linter.unusedSimpArgs false
set_option maxRecDepth 4000
namespace Go.Proofs.Ytgeceohdppecgaa
open Go Go.V Go.Proofs
def r42_sum_L3 (p0 : List Int) (p1 : List Int) (s : Int × Int) : Option (Step (Int × Int) Int) :=
match s with
| (n_s5_l3, i_s6_l3) =>
(if (decide (i_s6_l3 < ((p1).length : Int))) = true then
((idx p1 i_s6_l3).bind fun x5 =>
((idx p0 x5).bind fun x7 =>
some (.next (IntKind.i64.wrap (n_s5_l3 + x7), IntKind.i64.wrap (i_s6_l3 + 1)))))
else
some (.done n_s5_l3))

def r42_sum (p0 : List Int) (p1 : List Int) : Option Int :=
((loop (r42_sum_L3 p0 p1) (0, 0)).bind fun d => match d with
| n_s5_x3 => some n_s5_x3)

theorem r42_sum_w (a_p0 : Option Addr) (c_p0 : Nat) (p0 : List Int) (a_p1 : Option Addr) (c_p1 : Nat) (p1 : List Int) (r : Int) (w : World) (M : List Nat) (hms : MS w [M]) (hs_p0 : SlR (eInt .i64) w (fl [M]) a_p0 c_p0 p0) (hs_p1 : SlR (eInt .i64) w (fl [M]) a_p1 c_p1 p1) (h : r42_sum p0 p1 = some r) : CallVC Try.prog 31 [Vl a_p0 p0 c_p0, Vl a_p1 p1 c_p1] w fun v w' => v = Vi r ∧ Ev [] w w' := by
 refine calls_vc hmx Try.func31 (by kernel_rfl) rfl (rs := [.tmp 4]) rfl (by kernel_rfl) (args := [Vl a_p0 p0 c_p0, Vl a_p1 p1 c_p1]) rfl ?_
 have hev : Ev [] w w := Ev.refl _ _
 have hfr : FR w.heap.size [] := FR.nil _
 refine c_sp ?_
 refine x_u 1 [(4, Vi 0)] ?_
 refine x_ek ?_
 refine c_sp ?_
 refine x_u 1 [(5, Vi 0)] ?_
 refine x_ek ?_
 refine c_seq ?_
 refine c_sp ?_
 refine x_u 1 [(6, Vi 0)] ?_
 refine x_ek ?_
 refine c_block ?_
 obtain ⟨d3, hd3, h3⟩ := bind_some h
 obtain ⟨m3, hd3⟩ := loop_some hd3
 refine c_loop (loop_rule hmx (σ := Nat × Int × Int) (fun s => match s with | (_, n_s5_l3, i_s6_l3) => [(0, Vl a_p0 p0 c_p0), (1, Vl a_p1 p1 c_p1), (5, Vi n_s5_l3), (6, Vi i_s6_l3)]) (fun s w' => match s with | (m, n_s5_l3, i_s6_l3) => loopN (r42_sum_L3 p0 p1) m (n_s5_l3, i_s6_l3) = some d3 ∧ Ev [] w w' ∧ MS w' [M] ∧ FR w.heap.size [] ∧ SlR (eInt .i64) w' (fl [M]) a_p0 c_p0 p0 ∧ SlR (eInt .i64) w' (fl [M]) a_p1 c_p1 p1) (fun s => s.1) (m3, 0, 0) ⟨rfl, rfl, rfl, rfl, trivial⟩ ⟨hd3, hev, hms, hfr, hs_p0, hs_p1⟩ ?_)
 rintro ⟨m3, n_s5_l3, i_s6_l3⟩ J wl3 ⟨hn3, hev, hms, hfr, hs_p0, hs_p1⟩
 rcases m3 with _ | m3
 · exact (loopN_zero hn3).elim
 obtain ⟨t3, h, hn3⟩ := bind_some hn3
 refine c_seq ?_
 refine c_sp ?_
 refine x_u 2 [(7, Vi i_s6_l3), (8, Vl a_p1 p1 c_p1)] ?_
 refine x_len (vs := [Vl a_p1 p1 c_p1]) (Vi ((p1).length : Int)) rfl rfl rfl (reads_len tsl22 _ _ _ _ _) ?_
 refine x_u 1 [(10, .bool (decide (i_s6_l3 < ((p1).length : Int))))] ?_
 refine x_ek ?_
 refine c_norm [(0, Vl a_p0 p0 c_p0), (1, Vl a_p1 p1 c_p1), (5, Vi n_s5_l3), (6, Vi i_s6_l3), (10, .bool (decide (i_s6_l3 < ((p1).length : Int))))] ⟨rfl, rfl, rfl, rfl, rfl, trivial⟩ (fun J => ?_)
 refine c_if (decide (i_s6_l3 < ((p1).length : Int))) rfl h (fun h => ?_) (fun h => ?_)
 · refine c_skip ?_
   refine k_then ?_
   refine c_seq ?_
   refine c_block ?_
   refine c_plain ?_
   refine x_u 4 [(13, Vi n_s5_l3), (14, Vl a_p0 p0 c_p0), (15, Vl a_p1 p1 c_p1), (16, Vi i_s6_l3)] ?_
   obtain ⟨x5, hx5, h⟩ := bind_some h
   obtain ⟨ad5, cs5, hr5, hc5, hR⟩ := reads_index (Mo := []) tsl22 hs_p1 hx5
   obtain rfl := hR
   refine x_indexAddr (xv := Vl a_p1 p1 c_p1) (yv := Vi i_s6_l3) (.pointer (some ad5)) rfl rfl rfl rfl hr5 ?_
   refine x_load (xv := .pointer (some ad5)) (Vi x5) rfl rfl rfl (reads_cell0 tcell3 hc5 (fun _ h => by cases h)) ?_
   obtain ⟨x7, hx7, h⟩ := bind_some h
   obtain ⟨ad7, cs7, hr7, hc7, hR⟩ := reads_index (Mo := []) tsl22 hs_p0 hx7
   obtain rfl := hR
   refine x_indexAddr (xv := Vl a_p0 p0 c_p0) (yv := Vi x5) (.pointer (some ad7)) rfl rfl rfl rfl hr7 ?_
   refine x_load (xv := .pointer (some ad7)) (Vi x7) rfl rfl rfl (reads_cell0 tcell3 hc7 (fun _ h => by cases h)) ?_
   refine x_u 2 [(21, Vi (IntKind.i64.wrap (n_s5_l3 + x7))), (5, Vi (IntKind.i64.wrap (n_s5_l3 + x7)))] ?_
   refine x_end rfl ?_
   refine k_block ?_
   refine k_then ?_
   refine c_plain ?_
   refine x_u 3 [(11, Vi i_s6_l3), (12, Vi (IntKind.i64.wrap (i_s6_l3 + 1))), (6, Vi (IntKind.i64.wrap (i_s6_l3 + 1)))] ?_
   refine x_end rfl ?_
   have hx := some_inj h
   subst hx
   exact k_then ⟨(m3, IntKind.i64.wrap (n_s5_l3 + x7), IntKind.i64.wrap (i_s6_l3 + 1)), ⟨rfl, rfl, rfl, rfl, trivial⟩, ⟨hn3, hev, hms, hfr, hs_p0, hs_p1⟩, Nat.lt_succ_self _⟩
 refine c_exit ?_
 refine k_then_exit ?_
 have hx := some_inj h
 subst hx
 have hy := some_inj hn3
 subst hy
 replace h := h3
 refine k_then_exit ?_
 refine k_block_in ?_
 refine k_then ?_
 refine c_norm [(5, Vi n_s5_l3)] ⟨rfl, trivial⟩ (fun J => ?_)
 refine c_sp ?_
 refine x_u 2 [(22, Vi n_s5_l3), (4, Vi n_s5_l3)] ?_
 refine x_ek ?_
 refine c_ret ?_
 refine r_ret (r_vals [Vi n_s5_l3] ⟨rfl, trivial⟩ ?_)
 have hx := some_inj h
 subst hx
 have hmr : MS wl3 [M] := hms.pick [some 0] _ rfl
 have hsu : ∀ x ∈ fl [M], x ∈ fl [M] := pick_sub [some 0] _ rfl
 exact ⟨rfl, hev⟩
def r42_Valid_L17 (p1 : List Int) (p2 : List (List Int)) (v_t_s9_l14 : Int) (s : (List Bool) × Int) : Option (Step ((List Bool) × Int) (Unit ⊕ (List Bool))) :=
match s with
| (d13_l17, i_s10_l17) =>
((idx p2 v_t_s9_l14).bind fun x19 =>
(if (decide (i_s10_l17 < ((x19).length : Int))) = true then
((idx p2 v_t_s9_l14).bind fun x23 =>
((idx x23 i_s10_l17).bind fun x27 =>
(if (decide (x27 < 0)) = true then
some (.done (.inl ()))
else
(if (decide (x27 ≥ ((p1).length : Int))) = true then
some (.done (.inl ()))
else
((idx d13_l17 x27).bind fun x29 =>
(if x29 = true then
some (.done (.inl ()))
else
((idx d13_l17 x27).bind fun x31 =>
some (.next ((d13_l17.set (Int.toNat x27) true), IntKind.i64.wrap (i_s10_l17 + 1))))))))))
else
some (.done (.inr d13_l17))))

def r42_Valid_L14 (p0 : List ((List UInt8) × Int)) (p1 : List Int) (p2 : List (List Int)) (s : (List Bool) × Int) : Option (Step ((List Bool) × Int) (Unit ⊕ Unit)) :=
match s with
| (d13_l14, v_t_s9_l14) =>
(if (decide (v_t_s9_l14 < ((p2).length : Int))) = true then
((loop (r42_Valid_L17 p1 p2 v_t_s9_l14) (d13_l14, 0)).bind fun d => match d with
| (.inl _) => some (.done (.inl ()))
| (.inr d13_x1701) => ((idx p0 v_t_s9_l14).bind fun x34 =>
(if (decide (x34.2 < 0)) = true then
some (.done (.inl ()))
else
((idx p0 v_t_s9_l14).bind fun x36 =>
(if (decide (x36.2 > 100000)) = true then
some (.done (.inl ()))
else
((idx p2 v_t_s9_l14).bind fun x38 =>
((idx p0 v_t_s9_l14).bind fun x42 =>
((r42_sum p1 x38).bind fun x44 =>
(if (decide (x44 > x42.2)) = true then
some (.done (.inl ()))
else
some (.next (d13_x1701, IntKind.i64.wrap (v_t_s9_l14 + 1))))))))))))
else
some (.done (.inr ())))

def r42_Valid_L6 (p1 : List Int) (s : Int) : Option (Step Int (Unit ⊕ Unit)) :=
match s with
| i_s7_l6 =>
(if (decide (i_s7_l6 < ((p1).length : Int))) = true then
((idx p1 i_s7_l6).bind fun x8 =>
(if (decide (x8 < 1)) = true then
some (.done (.inl ()))
else
((idx p1 i_s7_l6).bind fun x10 =>
(if (decide (x10 > 400)) = true then
some (.done (.inl ()))
else
some (.next (IntKind.i64.wrap (i_s7_l6 + 1)))))))
else
some (.done (.inr ())))

def r42_Valid (p0 : List ((List UInt8) × Int)) (p1 : List Int) (p2 : List (List Int)) : Option Bool :=
(if (((p2).length : Int) != ((p0).length : Int)) = true then
some false
else
(if (decide (((p0).length : Int) > 24)) = true then
some false
else
(if (decide (((p1).length : Int) > 192)) = true then
some false
else
((loop (r42_Valid_L6 p1) 0).bind fun d => match d with
| (.inl _) => some false
| (.inr _) => (if (0 : Int) ≤ ((p1).length : Int) ∧ (((p1).length : Int) : Int) ≤ 4294967296 then
((loop (r42_Valid_L14 p0 p1 p2) ((List.replicate (Int.toNat ((p1).length : Int)) false : List Bool), 0)).bind fun d => match d with
| (.inl _) => some false
| (.inr _) => some true)
else none)))))

theorem r42_Valid_w (a_p0 : Option Addr) (c_p0 : Nat) (p0 : List ((List UInt8) × Int)) (a_p1 : Option Addr) (c_p1 : Nat) (p1 : List Int) (a_p2 : Option Addr) (c_p2 : Nat) (p2 : List (List Int)) (r : Bool) (w : World) (M : List Nat) (hms : MS w [M]) (hs_p0 : SlR (eProd eStr (eInt .i64)) w (fl [M]) a_p0 c_p0 p0) (hs_p1 : SlR (eInt .i64) w (fl [M]) a_p1 c_p1 p1) (hs_p2 : SlR (eSl (eInt .i64)) w (fl [M]) a_p2 c_p2 p2) (h : r42_Valid p0 p1 p2 = some r) : CallVC Try.prog 20 [.slice a_p0 (p0).length c_p0, .slice a_p1 (p1).length c_p1, .slice a_p2 (p2).length c_p2] w fun v w' => v = .bool r ∧ Ev [] w w' := by
 refine calls_vc hmx Try.func20 (by kernel_rfl) rfl (rs := [.tmp 6]) rfl (by kernel_rfl) (args := [.slice a_p0 (p0).length c_p0, .slice a_p1 (p1).length c_p1, .slice a_p2 (p2).length c_p2]) rfl ?_
 have hev : Ev [] w w := Ev.refl _ _
 have hfr : FR w.heap.size [] := FR.nil _
 refine c_sp ?_
 refine x_u 1 [(6, .bool false)] ?_
 refine x_ek ?_
 refine c_seq ?_
 refine c_sp ?_
 refine x_u 1 [(12, .slice a_p2 (p2).length c_p2)] ?_
 refine x_len (vs := [.slice a_p2 (p2).length c_p2]) (Vi ((p2).length : Int)) rfl rfl rfl (reads_len tsl26 _ _ _ _ _) ?_
 refine x_u 1 [(14, .slice a_p0 (p0).length c_p0)] ?_
 refine x_len (vs := [.slice a_p0 (p0).length c_p0]) (Vi ((p0).length : Int)) rfl rfl rfl (reads_len tsl25 _ _ _ _ _) ?_
 refine x_u 2 [(16, .bool (((p2).length : Int) != ((p0).length : Int))), (17, .bool (((p2).length : Int) != ((p0).length : Int)))] ?_
 refine x_if 17 (((p2).length : Int) != ((p0).length : Int)) rfl h (fun h => ?_) (fun h => ?_)
 · refine x_u 9 [(18, undef), (19, undef), (20, undef), (21, .bool true), (22, .bool true), (23, undef), (24, undef), (25, undef), (26, .bool true)] ?_
   refine x_ek ?_
   refine c_norm [(0, .slice a_p0 (p0).length c_p0), (1, .slice a_p1 (p1).length c_p1), (2, .slice a_p2 (p2).length c_p2), (26, .bool true)] ⟨rfl, rfl, rfl, rfl, trivial⟩ (fun J => ?_)
   refine c_true rfl ?_
   refine c_sp ?_
   refine x_u 1 [(6, .bool false)] ?_
   refine x_ek ?_
   refine c_ret ?_
   refine k_then_ret ?_
   refine r_ret (r_vals [.bool false] ⟨rfl, trivial⟩ ?_)
   have hx := some_inj h
   subst hx
   have hmr : MS w [M] := hms.pick [some 0] _ rfl
   have hsu : ∀ x ∈ fl [M], x ∈ fl [M] := pick_sub [some 0] _ rfl
   exact ⟨rfl, hev⟩
 refine x_u 1 [(18, .slice a_p0 (p0).length c_p0)] ?_
 refine x_len (vs := [.slice a_p0 (p0).length c_p0]) (Vi ((p0).length : Int)) rfl rfl rfl (reads_len tsl25 _ _ _ _ _) ?_
 refine x_u 3 [(20, .bool (decide (((p0).length : Int) > 24))), (21, .bool (decide (((p0).length : Int) > 24))), (22, .bool (decide (((p0).length : Int) > 24)))] ?_
 refine x_if 22 (decide (((p0).length : Int) > 24)) rfl h (fun h => ?_) (fun h => ?_)
 · refine x_u 4 [(23, undef), (24, undef), (25, undef), (26, .bool true)] ?_
   refine x_ek ?_
   refine c_norm [(0, .slice a_p0 (p0).length c_p0), (1, .slice a_p1 (p1).length c_p1), (2, .slice a_p2 (p2).length c_p2), (26, .bool true)] ⟨rfl, rfl, rfl, rfl, trivial⟩ (fun J => ?_)
   refine c_true rfl ?_
   refine c_sp ?_
   refine x_u 1 [(6, .bool false)] ?_
   refine x_ek ?_
   refine c_ret ?_
   refine k_then_ret ?_
   refine r_ret (r_vals [.bool false] ⟨rfl, trivial⟩ ?_)
   have hx := some_inj h
   subst hx
   have hmr : MS w [M] := hms.pick [some 0] _ rfl
   have hsu : ∀ x ∈ fl [M], x ∈ fl [M] := pick_sub [some 0] _ rfl
   exact ⟨rfl, hev⟩
 refine x_u 1 [(23, .slice a_p1 (p1).length c_p1)] ?_
 refine x_len (vs := [.slice a_p1 (p1).length c_p1]) (Vi ((p1).length : Int)) rfl rfl rfl (reads_len tsl22 _ _ _ _ _) ?_
 refine x_u 2 [(25, .bool (decide (((p1).length : Int) > 192))), (26, .bool (decide (((p1).length : Int) > 192)))] ?_
 refine x_ek ?_
 refine c_norm [(0, .slice a_p0 (p0).length c_p0), (1, .slice a_p1 (p1).length c_p1), (2, .slice a_p2 (p2).length c_p2), (26, .bool (decide (((p1).length : Int) > 192)))] ⟨rfl, rfl, rfl, rfl, trivial⟩ (fun J => ?_)
 refine c_if (decide (((p1).length : Int) > 192)) rfl h (fun h => ?_) (fun h => ?_)
 · refine c_sp ?_
   refine x_u 1 [(6, .bool false)] ?_
   refine x_ek ?_
   refine c_ret ?_
   refine k_then_ret ?_
   refine r_ret (r_vals [.bool false] ⟨rfl, trivial⟩ ?_)
   have hx := some_inj h
   subst hx
   have hmr : MS w [M] := hms.pick [some 0] _ rfl
   have hsu : ∀ x ∈ fl [M], x ∈ fl [M] := pick_sub [some 0] _ rfl
   exact ⟨rfl, hev⟩
 refine c_skip ?_
 refine k_then ?_
 refine c_seq ?_
 refine c_sp ?_
 refine x_u 1 [(7, Vi 0)] ?_
 refine x_ek ?_
 refine c_block ?_
 obtain ⟨d6, hd6, h6⟩ := bind_some h
 obtain ⟨m6, hd6⟩ := loop_some hd6
 refine c_loop (loop_rule hmx (σ := Nat × Int) (fun s => match s with | (_, i_s7_l6) => [(0, .slice a_p0 (p0).length c_p0), (1, .slice a_p1 (p1).length c_p1), (2, .slice a_p2 (p2).length c_p2), (7, Vi i_s7_l6)]) (fun s w' => match s with | (m, i_s7_l6) => loopN (r42_Valid_L6 p1) m i_s7_l6 = some d6 ∧ Ev [] w w' ∧ MS w' [M] ∧ FR w.heap.size [] ∧ SlR (eProd eStr (eInt .i64)) w' (fl [M]) a_p0 c_p0 p0 ∧ SlR (eInt .i64) w' (fl [M]) a_p1 c_p1 p1 ∧ SlR (eSl (eInt .i64)) w' (fl [M]) a_p2 c_p2 p2) (fun s => s.1) (m6, 0) ⟨rfl, rfl, rfl, rfl, trivial⟩ ⟨hd6, hev, hms, hfr, hs_p0, hs_p1, hs_p2⟩ ?_)
 rintro ⟨m6, i_s7_l6⟩ J wl6 ⟨hn6, hev, hms, hfr, hs_p0, hs_p1, hs_p2⟩
 rcases m6 with _ | m6
 · exact (loopN_zero hn6).elim
 obtain ⟨t6, h, hn6⟩ := bind_some hn6
 refine c_seq ?_
 refine c_sp ?_
 refine x_u 2 [(27, Vi i_s7_l6), (28, .slice a_p1 (p1).length c_p1)] ?_
 refine x_len (vs := [.slice a_p1 (p1).length c_p1]) (Vi ((p1).length : Int)) rfl rfl rfl (reads_len tsl22 _ _ _ _ _) ?_
 refine x_u 1 [(30, .bool (decide (i_s7_l6 < ((p1).length : Int))))] ?_
 refine x_ek ?_
 refine c_norm [(0, .slice a_p0 (p0).length c_p0), (1, .slice a_p1 (p1).length c_p1), (2, .slice a_p2 (p2).length c_p2), (7, Vi i_s7_l6), (30, .bool (decide (i_s7_l6 < ((p1).length : Int))))] ⟨rfl, rfl, rfl, rfl, rfl, trivial⟩ (fun J => ?_)
 refine c_if (decide (i_s7_l6 < ((p1).length : Int))) rfl h (fun h => ?_) (fun h => ?_)
 · refine c_skip ?_
   refine k_then ?_
   refine c_seq ?_
   refine c_block ?_
   refine c_sp ?_
   refine x_u 2 [(33, .slice a_p1 (p1).length c_p1), (34, Vi i_s7_l6)] ?_
   obtain ⟨x8, hx8, h⟩ := bind_some h
   obtain ⟨ad8, cs8, hr8, hc8, hR⟩ := reads_index (Mo := []) tsl22 hs_p1 hx8
   obtain rfl := hR
   refine x_indexAddr (xv := .slice a_p1 (p1).length c_p1) (yv := Vi i_s7_l6) (.pointer (some ad8)) rfl rfl rfl rfl hr8 ?_
   refine x_load (xv := .pointer (some ad8)) (Vi x8) rfl rfl rfl (reads_cell0 tcell3 hc8 (fun _ h => by cases h)) ?_
   refine x_u 2 [(37, .bool (decide (x8 < 1))), (38, .bool (decide (x8 < 1)))] ?_
   refine x_if 38 (decide (x8 < 1)) rfl h (fun h => ?_) (fun h => ?_)
   · refine x_u 6 [(39, undef), (40, undef), (41, undef), (42, undef), (43, undef), (44, .bool true)] ?_
     refine x_ek ?_
     refine c_norm [(0, .slice a_p0 (p0).length c_p0), (1, .slice a_p1 (p1).length c_p1), (2, .slice a_p2 (p2).length c_p2), (7, Vi i_s7_l6), (44, .bool true)] ⟨rfl, rfl, rfl, rfl, rfl, trivial⟩ (fun J => ?_)
     refine c_true rfl ?_
     refine c_sp ?_
     refine x_u 1 [(6, .bool false)] ?_
     refine x_ek ?_
     refine c_ret ?_
     refine k_block_ret ?_
     refine k_then_ret ?_
     have hx := some_inj h
     subst hx
     have hy := some_inj hn6
     subst hy
     replace h := h6
     refine k_then_ret ?_
     refine k_block_ret ?_
     refine k_then_ret ?_
     refine r_ret (r_vals [.bool false] ⟨rfl, trivial⟩ ?_)
     have hx := some_inj h
     subst hx
     have hmr : MS wl6 [M] := hms.pick [some 0] _ rfl
     have hsu : ∀ x ∈ fl [M], x ∈ fl [M] := pick_sub [some 0] _ rfl
     exact ⟨rfl, hev⟩
   refine x_u 2 [(39, .slice a_p1 (p1).length c_p1), (40, Vi i_s7_l6)] ?_
   obtain ⟨x10, hx10, h⟩ := bind_some h
   obtain ⟨ad10, cs10, hr10, hc10, hR⟩ := reads_index (Mo := []) tsl22 hs_p1 hx10
   obtain rfl := hR
   refine x_indexAddr (xv := .slice a_p1 (p1).length c_p1) (yv := Vi i_s7_l6) (.pointer (some ad10)) rfl rfl rfl rfl hr10 ?_
   refine x_load (xv := .pointer (some ad10)) (Vi x10) rfl rfl rfl (reads_cell0 tcell3 hc10 (fun _ h => by cases h)) ?_
   refine x_u 2 [(43, .bool (decide (x10 > 400))), (44, .bool (decide (x10 > 400)))] ?_
   refine x_ek ?_
   refine c_norm [(0, .slice a_p0 (p0).length c_p0), (1, .slice a_p1 (p1).length c_p1), (2, .slice a_p2 (p2).length c_p2), (7, Vi i_s7_l6), (44, .bool (decide (x10 > 400)))] ⟨rfl, rfl, rfl, rfl, rfl, trivial⟩ (fun J => ?_)
   refine c_if (decide (x10 > 400)) rfl h (fun h => ?_) (fun h => ?_)
   · refine c_sp ?_
     refine x_u 1 [(6, .bool false)] ?_
     refine x_ek ?_
     refine c_ret ?_
     refine k_block_ret ?_
     refine k_then_ret ?_
     have hx := some_inj h
     subst hx
     have hy := some_inj hn6
     subst hy
     replace h := h6
     refine k_then_ret ?_
     refine k_block_ret ?_
     refine k_then_ret ?_
     refine r_ret (r_vals [.bool false] ⟨rfl, trivial⟩ ?_)
     have hx := some_inj h
     subst hx
     have hmr : MS wl6 [M] := hms.pick [some 0] _ rfl
     have hsu : ∀ x ∈ fl [M], x ∈ fl [M] := pick_sub [some 0] _ rfl
     exact ⟨rfl, hev⟩
   refine c_skip ?_
   refine k_block ?_
   refine k_then ?_
   refine c_plain ?_
   refine x_u 3 [(31, Vi i_s7_l6), (32, Vi (IntKind.i64.wrap (i_s7_l6 + 1))), (7, Vi (IntKind.i64.wrap (i_s7_l6 + 1)))] ?_
   refine x_end rfl ?_
   have hx := some_inj h
   subst hx
   exact k_then ⟨(m6, IntKind.i64.wrap (i_s7_l6 + 1)), ⟨rfl, rfl, rfl, rfl, trivial⟩, ⟨hn6, hev, hms, hfr, hs_p0, hs_p1, hs_p2⟩, Nat.lt_succ_self _⟩
 refine c_exit ?_
 refine k_then_exit ?_
 have hx := some_inj h
 subst hx
 have hy := some_inj hn6
 subst hy
 replace h := h6
 refine k_then_exit ?_
 refine k_block_in ?_
 refine k_then ?_
 refine c_norm [(0, .slice a_p0 (p0).length c_p0), (1, .slice a_p1 (p1).length c_p1), (2, .slice a_p2 (p2).length c_p2)] ⟨rfl, rfl, rfl, trivial⟩ (fun J => ?_)
 refine c_sp ?_
 refine x_u 1 [(45, .slice a_p1 (p1).length c_p1)] ?_
 refine x_len (vs := [.slice a_p1 (p1).length c_p1]) (Vi ((p1).length : Int)) rfl rfl rfl (reads_len tsl22 _ _ _ _ _) ?_
 have hg := guard_l h
 replace h := guard_r h
 obtain ⟨a12, c12, w12, hr12, he12, hn12, hw12⟩ := own_make (e := eBool) tel56 wl6 ((p1).length : Int) hg.1 hg.2 false (fun _ _ => rfl)
 refine x_makeSlice _ w12 (xv := Vi ((p1).length : Int)) (yv := Vi ((p1).length : Int)) rfl rfl rfl rfl hr12 ?_
 refine inl1 ?_
 have hst := Stp.push (ls := [M]) (l := blk a12) he12 (fun _ h => by cases h) (fun b hb => (hn12 b hb).1)
 replace hs_p0 := hs_p0.step hst
 replace hs_p1 := hs_p1.step hst
 replace hs_p2 := hs_p2.step hst
 replace hms := hms.push he12 hn12
 replace hfr := hfr.push (fun b hb => Nat.le_trans hev.size (hn12 b hb).1)
 replace hev := hev.ext he12
 have ho12 := hw12 (fl [blk a12, M])
 clear hw12
 refine x_u 1 [(8, .slice a12 ((List.replicate (Int.toNat ((p1).length : Int)) false : List Bool)).length c12)] ?_
 refine x_ek ?_
 refine c_seq ?_
 refine c_sp ?_
 refine x_u 1 [(9, Vi 0)] ?_
 refine x_ek ?_
 refine c_block ?_
 obtain ⟨d14, hd14, h14⟩ := bind_some h
 obtain ⟨m14, hd14⟩ := loop_some hd14
 refine c_loop (loop_rule hmx (σ := Nat × (List Bool) × Int) (fun s => match s with | (_, d13_l14, v_t_s9_l14) => [(0, .slice a_p0 (p0).length c_p0), (1, .slice a_p1 (p1).length c_p1), (2, .slice a_p2 (p2).length c_p2), (8, .slice a12 (d13_l14).length c12), (9, Vi v_t_s9_l14)]) (fun s w' => match s with | (m, d13_l14, v_t_s9_l14) => loopN (r42_Valid_L14 p0 p1 p2) m (d13_l14, v_t_s9_l14) = some d14 ∧ Ev [] w w' ∧ MS w' [blk a12, M] ∧ FR w.heap.size [blk a12] ∧ SlR (eProd eStr (eInt .i64)) w' (fl [blk a12, M]) a_p0 c_p0 p0 ∧ SlR (eInt .i64) w' (fl [blk a12, M]) a_p1 c_p1 p1 ∧ SlR (eSl (eInt .i64)) w' (fl [blk a12, M]) a_p2 c_p2 p2 ∧ OwnS eBool 4 w' (fl [blk a12, M]) a12 c12 d13_l14) (fun s => s.1) (m14, (List.replicate (Int.toNat ((p1).length : Int)) false : List Bool), 0) ⟨rfl, rfl, rfl, rfl, rfl, trivial⟩ ⟨hd14, hev, hms, hfr, hs_p0, hs_p1, hs_p2, ho12⟩ ?_)
 rintro ⟨m14, d13_l14, v_t_s9_l14⟩ J wl14 ⟨hn14, hev, hms, hfr, hs_p0, hs_p1, hs_p2, ho12⟩
 rcases m14 with _ | m14
 · exact (loopN_zero hn14).elim
 obtain ⟨t14, h, hn14⟩ := bind_some hn14
 refine c_seq ?_
 refine c_sp ?_
 refine x_u 2 [(48, Vi v_t_s9_l14), (49, .slice a_p2 (p2).length c_p2)] ?_
 refine x_len (vs := [.slice a_p2 (p2).length c_p2]) (Vi ((p2).length : Int)) rfl rfl rfl (reads_len tsl26 _ _ _ _ _) ?_
 refine x_u 1 [(51, .bool (decide (v_t_s9_l14 < ((p2).length : Int))))] ?_
 refine x_ek ?_
 refine c_norm [(0, .slice a_p0 (p0).length c_p0), (1, .slice a_p1 (p1).length c_p1), (2, .slice a_p2 (p2).length c_p2), (8, .slice a12 (d13_l14).length c12), (9, Vi v_t_s9_l14), (51, .bool (decide (v_t_s9_l14 < ((p2).length : Int))))] ⟨rfl, rfl, rfl, rfl, rfl, rfl, trivial⟩ (fun J => ?_)
 refine c_if (decide (v_t_s9_l14 < ((p2).length : Int))) rfl h (fun h => ?_) (fun h => ?_)
 · refine c_skip ?_
   refine k_then ?_
   refine c_seq ?_
   refine c_block ?_
   refine c_seq ?_
   refine c_sp ?_
   refine x_u 1 [(10, Vi 0)] ?_
   refine x_ek ?_
   refine c_block ?_
   obtain ⟨d17, hd17, h17⟩ := bind_some h
   obtain ⟨m17, hd17⟩ := loop_some hd17
   refine c_loop (loop_rule hmx (σ := Nat × (List Bool) × Int) (fun s => match s with | (_, d13_l17, i_s10_l17) => [(0, .slice a_p0 (p0).length c_p0), (1, .slice a_p1 (p1).length c_p1), (2, .slice a_p2 (p2).length c_p2), (8, .slice a12 (d13_l17).length c12), (9, Vi v_t_s9_l14), (10, Vi i_s10_l17)]) (fun s w' => match s with | (m, d13_l17, i_s10_l17) => loopN (r42_Valid_L17 p1 p2 v_t_s9_l14) m (d13_l17, i_s10_l17) = some d17 ∧ Ev [] w w' ∧ MS w' [blk a12, M] ∧ FR w.heap.size [blk a12] ∧ SlR (eProd eStr (eInt .i64)) w' (fl [blk a12, M]) a_p0 c_p0 p0 ∧ SlR (eInt .i64) w' (fl [blk a12, M]) a_p1 c_p1 p1 ∧ SlR (eSl (eInt .i64)) w' (fl [blk a12, M]) a_p2 c_p2 p2 ∧ OwnS eBool 4 w' (fl [blk a12, M]) a12 c12 d13_l17) (fun s => s.1) (m17, d13_l14, 0) ⟨rfl, rfl, rfl, rfl, rfl, rfl, trivial⟩ ⟨hd17, hev, hms, hfr, hs_p0, hs_p1, hs_p2, ho12⟩ ?_)
   rintro ⟨m17, d13_l17, i_s10_l17⟩ J wl17 ⟨hn17, hev, hms, hfr, hs_p0, hs_p1, hs_p2, ho12⟩
   rcases m17 with _ | m17
   · exact (loopN_zero hn17).elim
   obtain ⟨t17, h, hn17⟩ := bind_some hn17
   refine c_seq ?_
   refine c_sp ?_
   refine x_u 3 [(54, Vi i_s10_l17), (55, .slice a_p2 (p2).length c_p2), (56, Vi v_t_s9_l14)] ?_
   obtain ⟨x19, hx19, h⟩ := bind_some h
   obtain ⟨ad19, cs19, hr19, hc19, hR⟩ := reads_index (Mo := []) tsl26 hs_p2 hx19
   obtain ⟨a20, c20, rfl, hs20⟩ := hR
   refine x_indexAddr (xv := .slice a_p2 (p2).length c_p2) (yv := Vi v_t_s9_l14) (.pointer (some ad19)) rfl rfl rfl rfl hr19 ?_
   refine x_load (xv := .pointer (some ad19)) (.slice a20 (x19).length c20) rfl rfl rfl (reads_cell0 tcell22 hc19 (fun _ h => by cases h)) ?_
   refine x_len (vs := [.slice a20 (x19).length c20]) (Vi ((x19).length : Int)) rfl rfl rfl (reads_len tsl22 _ _ _ _ _) ?_
   refine x_u 1 [(60, .bool (decide (i_s10_l17 < ((x19).length : Int))))] ?_
   refine x_ek ?_
   refine c_norm [(0, .slice a_p0 (p0).length c_p0), (1, .slice a_p1 (p1).length c_p1), (2, .slice a_p2 (p2).length c_p2), (8, .slice a12 (d13_l17).length c12), (9, Vi v_t_s9_l14), (10, Vi i_s10_l17), (60, .bool (decide (i_s10_l17 < ((x19).length : Int))))] ⟨rfl, rfl, rfl, rfl, rfl, rfl, rfl, trivial⟩ (fun J => ?_)
   refine c_if (decide (i_s10_l17 < ((x19).length : Int))) rfl h (fun h => ?_) (fun h => ?_)
   · refine c_skip ?_
     refine k_then ?_
     refine c_seq ?_
     refine c_block ?_
     refine c_sp ?_
     refine x_u 2 [(63, .slice a_p2 (p2).length c_p2), (64, Vi v_t_s9_l14)] ?_
     obtain ⟨x23, hx23, h⟩ := bind_some h
     obtain ⟨ad23, cs23, hr23, hc23, hR⟩ := reads_index (Mo := []) tsl26 hs_p2 hx23
     obtain ⟨a24, c24, rfl, hs24⟩ := hR
     refine x_indexAddr (xv := .slice a_p2 (p2).length c_p2) (yv := Vi v_t_s9_l14) (.pointer (some ad23)) rfl rfl rfl rfl hr23 ?_
     refine x_load (xv := .pointer (some ad23)) (.slice a24 (x23).length c24) rfl rfl rfl (reads_cell0 tcell22 hc23 (fun _ h => by cases h)) ?_
     refine x_u 1 [(67, Vi i_s10_l17)] ?_
     obtain ⟨x27, hx27, h⟩ := bind_some h
     obtain ⟨ad27, cs27, hr27, hc27, hR⟩ := reads_index (Mo := []) tsl22 hs24 hx27
     obtain rfl := hR
     refine x_indexAddr (xv := .slice a24 (x23).length c24) (yv := Vi i_s10_l17) (.pointer (some ad27)) rfl rfl rfl rfl hr27 ?_
     refine x_load (xv := .pointer (some ad27)) (Vi x27) rfl rfl rfl (reads_cell0 tcell3 hc27 (fun _ h => by cases h)) ?_
     refine x_u 1 [(11, Vi x27)] ?_
     refine x_ek ?_
     refine c_seq ?_
     refine c_sp ?_
     refine x_u 3 [(70, Vi x27), (71, .bool (decide (x27 < 0))), (72, .bool (decide (x27 < 0)))] ?_
     refine x_if 72 (decide (x27 < 0)) rfl h (fun h => ?_) (fun h => ?_)
     · refine x_u 11 [(73, undef), (74, undef), (75, undef), (76, undef), (77, .bool true), (78, .bool true), (79, undef), (80, undef), (81, undef), (82, undef), (83, .bool true)] ?_
       refine x_ek ?_
       refine c_norm [(0, .slice a_p0 (p0).length c_p0), (1, .slice a_p1 (p1).length c_p1), (2, .slice a_p2 (p2).length c_p2), (8, .slice a12 (d13_l17).length c12), (9, Vi v_t_s9_l14), (10, Vi i_s10_l17), (11, Vi x27), (83, .bool true)] ⟨rfl, rfl, rfl, rfl, rfl, rfl, rfl, rfl, trivial⟩ (fun J => ?_)
       refine c_true rfl ?_
       refine c_sp ?_
       refine x_u 1 [(6, .bool false)] ?_
       refine x_ek ?_
       refine c_ret ?_
       refine k_then_ret ?_
       refine k_block_ret ?_
       refine k_then_ret ?_
       have hx := some_inj h
       subst hx
       have hy := some_inj hn17
       subst hy
       replace h := h17
       refine k_then_ret ?_
       refine k_block_ret ?_
       refine k_then_ret ?_
       refine k_block_ret ?_
       refine k_then_ret ?_
       have hx := some_inj h
       subst hx
       have hy := some_inj hn14
       subst hy
       replace h := h14
       refine k_then_ret ?_
       refine k_block_ret ?_
       refine k_then_ret ?_
       refine r_ret (r_vals [.bool false] ⟨rfl, trivial⟩ ?_)
       have hx := some_inj h
       subst hx
       have hmr : MS wl17 [M] := hms.pick [some 1] _ rfl
       have hsu : ∀ x ∈ fl [M], x ∈ fl [blk a12, M] := pick_sub [some 1] _ rfl
       exact ⟨rfl, hev⟩
     refine x_u 2 [(73, Vi x27), (74, .slice a_p1 (p1).length c_p1)] ?_
     refine x_len (vs := [.slice a_p1 (p1).length c_p1]) (Vi ((p1).length : Int)) rfl rfl rfl (reads_len tsl22 _ _ _ _ _) ?_
     refine x_u 3 [(76, .bool (decide (x27 ≥ ((p1).length : Int)))), (77, .bool (decide (x27 ≥ ((p1).length : Int)))), (78, .bool (decide (x27 ≥ ((p1).length : Int))))] ?_
     refine x_if 78 (decide (x27 ≥ ((p1).length : Int))) rfl h (fun h => ?_) (fun h => ?_)
     · refine x_u 5 [(79, undef), (80, undef), (81, undef), (82, undef), (83, .bool true)] ?_
       refine x_ek ?_
       refine c_norm [(0, .slice a_p0 (p0).length c_p0), (1, .slice a_p1 (p1).length c_p1), (2, .slice a_p2 (p2).length c_p2), (8, .slice a12 (d13_l17).length c12), (9, Vi v_t_s9_l14), (10, Vi i_s10_l17), (11, Vi x27), (83, .bool true)] ⟨rfl, rfl, rfl, rfl, rfl, rfl, rfl, rfl, trivial⟩ (fun J => ?_)
       refine c_true rfl ?_
       refine c_sp ?_
       refine x_u 1 [(6, .bool false)] ?_
       refine x_ek ?_
       refine c_ret ?_
       refine k_then_ret ?_
       refine k_block_ret ?_
       refine k_then_ret ?_
       have hx := some_inj h
       subst hx
       have hy := some_inj hn17
       subst hy
       replace h := h17
       refine k_then_ret ?_
       refine k_block_ret ?_
       refine k_then_ret ?_
       refine k_block_ret ?_
       refine k_then_ret ?_
       have hx := some_inj h
       subst hx
       have hy := some_inj hn14
       subst hy
       replace h := h14
       refine k_then_ret ?_
       refine k_block_ret ?_
       refine k_then_ret ?_
       refine r_ret (r_vals [.bool false] ⟨rfl, trivial⟩ ?_)
       have hx := some_inj h
       subst hx
       have hmr : MS wl17 [M] := hms.pick [some 1] _ rfl
       have hsu : ∀ x ∈ fl [M], x ∈ fl [blk a12, M] := pick_sub [some 1] _ rfl
       exact ⟨rfl, hev⟩
     refine x_u 2 [(79, .slice a12 (d13_l17).length c12), (80, Vi x27)] ?_
     obtain ⟨x29, hx29, h⟩ := bind_some h
     obtain ⟨g29, cs29, ha29, hr29, hc29, hR⟩ := own_index (Mo := []) tsl56 ho12 hx29
     obtain rfl := hR
     refine x_indexAddr (xv := .slice a12 (d13_l17).length c12) (yv := Vi x27) (.pointer (some ⟨g29, (Int.toNat x27) * eBool.n, none⟩)) rfl rfl rfl rfl hr29 ?_
     refine x_load (xv := .pointer (some ⟨g29, (Int.toNat x27) * eBool.n, none⟩)) (.bool x29) rfl rfl rfl (reads_cell0 tcell4 hc29 (fun _ h => by cases h)) ?_
     refine x_u 1 [(83, .bool x29)] ?_
     refine x_ek ?_
     refine c_norm [(0, .slice a_p0 (p0).length c_p0), (1, .slice a_p1 (p1).length c_p1), (2, .slice a_p2 (p2).length c_p2), (8, .slice a12 (d13_l17).length c12), (9, Vi v_t_s9_l14), (10, Vi i_s10_l17), (11, Vi x27), (83, .bool x29)] ⟨rfl, rfl, rfl, rfl, rfl, rfl, rfl, rfl, trivial⟩ (fun J => ?_)
     refine c_if x29 rfl h (fun h => ?_) (fun h => ?_)
     · refine c_sp ?_
       refine x_u 1 [(6, .bool false)] ?_
       refine x_ek ?_
       refine c_ret ?_
       refine k_then_ret ?_
       refine k_block_ret ?_
       refine k_then_ret ?_
       have hx := some_inj h
       subst hx
       have hy := some_inj hn17
       subst hy
       replace h := h17
       refine k_then_ret ?_
       refine k_block_ret ?_
       refine k_then_ret ?_
       refine k_block_ret ?_
       refine k_then_ret ?_
       have hx := some_inj h
       subst hx
       have hy := some_inj hn14
       subst hy
       replace h := h14
       refine k_then_ret ?_
       refine k_block_ret ?_
       refine k_then_ret ?_
       refine r_ret (r_vals [.bool false] ⟨rfl, trivial⟩ ?_)
       have hx := some_inj h
       subst hx
       have hmr : MS wl17 [M] := hms.pick [some 1] _ rfl
       have hsu : ∀ x ∈ fl [M], x ∈ fl [blk a12, M] := pick_sub [some 1] _ rfl
       exact ⟨rfl, hev⟩
     refine c_skip ?_
     refine k_then ?_
     refine c_plain ?_
     refine x_u 2 [(84, .slice a12 (d13_l17).length c12), (85, Vi x27)] ?_
     obtain ⟨x31, hx31, h⟩ := bind_some h
     obtain ⟨g31, cs31, ha31, hr31, hc31, hR⟩ := own_index (Mo := []) tsl56 ho12 hx31
     obtain rfl := hR
     refine x_indexAddr (xv := .slice a12 (d13_l17).length c12) (yv := Vi x27) (.pointer (some ⟨g31, (Int.toNat x27) * eBool.n, none⟩)) rfl rfl rfl rfl hr31 ?_
     obtain ⟨w33, hr33, he33, ho33⟩ := own_storeE ha31 (y := true) 0 (.bool true) tcell4 ho12 (mem_flat 0 rfl) hx31 rfl rfl (fun _ _ _ hR => set_bool hR)
     refine x_store w33 (xv := .pointer (some ⟨g31, (Int.toNat x27) * eBool.n, none⟩)) (yv := .bool true) rfl rfl rfl rfl hr33 ?_
     refine inl1 ?_
     have hst := Stp.ev' (ls := [blk a12, M]) he33 (mem_flat 0 rfl)
     replace hs_p0 := hs_p0.step hst
     replace hs_p1 := hs_p1.step hst
     replace hs_p2 := hs_p2.step hst
     replace hms := hms.ev he33
     replace hev := hev.then he33 (fun b hb => .inr (hfr.at 0 rfl b hb))
     replace ho12 := ho33
     have hsl : (Value.slice a12 (d13_l17).length c12) = (Value.slice a12 ((d13_l17.set (Int.toNat x27) true)).length c12) := by first | (rw [List.length_set]; done) | simp only [List.length_set]
     try rw [hsl]
     clear hsl
     refine x_end rfl ?_
     refine k_block ?_
     refine k_then ?_
     refine c_plain ?_
     refine x_u 3 [(61, Vi i_s10_l17), (62, Vi (IntKind.i64.wrap (i_s10_l17 + 1))), (10, Vi (IntKind.i64.wrap (i_s10_l17 + 1)))] ?_
     refine x_end rfl ?_
     have hx := some_inj h
     subst hx
     exact k_then ⟨(m17, (d13_l17.set (Int.toNat x27) true), IntKind.i64.wrap (i_s10_l17 + 1)), ⟨rfl, rfl, rfl, rfl, rfl, rfl, trivial⟩, ⟨hn17, hev, hms, hfr, hs_p0, hs_p1, hs_p2, ho12⟩, Nat.lt_succ_self _⟩
   refine c_exit ?_
   refine k_then_exit ?_
   have hx := some_inj h
   subst hx
   have hy := some_inj hn17
   subst hy
   replace h := h17
   refine k_then_exit ?_
   refine k_block_in ?_
   refine k_then ?_
   refine c_norm [(0, .slice a_p0 (p0).length c_p0), (1, .slice a_p1 (p1).length c_p1), (2, .slice a_p2 (p2).length c_p2), (8, .slice a12 (d13_l17).length c12), (9, Vi v_t_s9_l14)] ⟨rfl, rfl, rfl, rfl, rfl, trivial⟩ (fun J => ?_)
   refine c_seq ?_
   refine c_drawn [] [(0, false), (1, false), (2, false), (3, false), (4, false), (5, false), (6, false), (7, false), (8, false), (9, false), (10, false), (11, false), (12, false), (13, false), (14, false), (15, false), (16, false), (17, false), (18, false), (19, false), (21, false), (22, false), (23, false), (24, false), (25, false), (20, false), (26, false), (27, false)] _ (by kernel_rfl) rfl ?_
   have hst := Stp.ext (ls := [blk a12, M]) (Ev.drew wl17)
   replace hs_p0 := hs_p0.step hst
   replace hs_p1 := hs_p1.step hst
   replace hs_p2 := hs_p2.step hst
   replace ho12 := ho12.step hst (Ev.drew wl17) nn2
   replace hms := hms.ev (Ev.drew wl17)
   replace hev := hev.ext (Ev.drew wl17)
   refine x_u 2 [(87, .slice a_p0 (p0).length c_p0), (88, Vi v_t_s9_l14)] ?_
   obtain ⟨x34, hx34, h⟩ := bind_some h
   obtain ⟨ad34, cs34, hr34, hc34, hR⟩ := reads_index (Mo := []) tsl25 hs_p0 hx34
   obtain ⟨_, _, rfl, rfl, rfl⟩ := hR
   refine x_indexAddr (xv := .slice a_p0 (p0).length c_p0) (yv := Vi v_t_s9_l14) (.pointer (some ad34)) rfl rfl rfl rfl hr34 ?_
   refine x_fieldAddr (xv := .pointer (some ad34)) (.pointer (some (Addr.add ad34 1))) rfl rfl rfl (reads_field tfld45_1 _ _) ?_
   refine x_load (xv := .pointer (some (Addr.add ad34 1))) (Vi x34.2) rfl rfl rfl (reads_cell tcell3 hc34 (fun _ h => by cases h) 1 _ rfl) ?_
   refine x_u 2 [(92, .bool (decide (x34.2 < 0))), (93, .bool (decide (x34.2 < 0)))] ?_
   refine x_if 93 (decide (x34.2 < 0)) rfl h (fun h => ?_) (fun h => ?_)
   · refine x_u 21 [(94, undef), (95, undef), (96, undef), (97, undef), (98, undef), (99, undef), (100, .bool true), (101, .bool true), (102, undef), (103, undef), (104, undef), (105, undef), (106, undef), (108, undef), (109, undef), (110, undef), (111, undef), (112, undef), (107, undef), (113, undef), (114, .bool true)] ?_
     refine x_ek ?_
     refine c_norm [(0, .slice a_p0 (p0).length c_p0), (1, .slice a_p1 (p1).length c_p1), (2, .slice a_p2 (p2).length c_p2), (8, .slice a12 (d13_l17).length c12), (9, Vi v_t_s9_l14), (114, .bool true)] ⟨rfl, rfl, rfl, rfl, rfl, rfl, trivial⟩ (fun J => ?_)
     refine c_true rfl ?_
     refine c_sp ?_
     refine x_u 1 [(6, .bool false)] ?_
     refine x_ek ?_
     refine c_ret ?_
     refine k_block_ret ?_
     refine k_then_ret ?_
     have hx := some_inj h
     subst hx
     have hy := some_inj hn14
     subst hy
     replace h := h14
     refine k_then_ret ?_
     refine k_block_ret ?_
     refine k_then_ret ?_
     refine r_ret (r_vals [.bool false] ⟨rfl, trivial⟩ ?_)
     have hx := some_inj h
     subst hx
     have hmr : MS (wl17).drew [M] := hms.pick [some 1] _ rfl
     have hsu : ∀ x ∈ fl [M], x ∈ fl [blk a12, M] := pick_sub [some 1] _ rfl
     exact ⟨rfl, hev⟩
   refine x_u 2 [(94, .slice a_p0 (p0).length c_p0), (95, Vi v_t_s9_l14)] ?_
   obtain ⟨x36, hx36, h⟩ := bind_some h
   obtain ⟨ad36, cs36, hr36, hc36, hR⟩ := reads_index (Mo := []) tsl25 hs_p0 hx36
   obtain ⟨_, _, rfl, rfl, rfl⟩ := hR
   refine x_indexAddr (xv := .slice a_p0 (p0).length c_p0) (yv := Vi v_t_s9_l14) (.pointer (some ad36)) rfl rfl rfl rfl hr36 ?_
   refine x_fieldAddr (xv := .pointer (some ad36)) (.pointer (some (Addr.add ad36 1))) rfl rfl rfl (reads_field tfld45_1 _ _) ?_
   refine x_load (xv := .pointer (some (Addr.add ad36 1))) (Vi x36.2) rfl rfl rfl (reads_cell tcell3 hc36 (fun _ h => by cases h) 1 _ rfl) ?_
   refine x_u 3 [(99, .bool (decide (x36.2 > 100000))), (100, .bool (decide (x36.2 > 100000))), (101, .bool (decide (x36.2 > 100000)))] ?_
   refine x_if 101 (decide (x36.2 > 100000)) rfl h (fun h => ?_) (fun h => ?_)
   · refine x_u 13 [(102, undef), (103, undef), (104, undef), (105, undef), (106, undef), (108, undef), (109, undef), (110, undef), (111, undef), (112, undef), (107, undef), (113, undef), (114, .bool true)] ?_
     refine x_ek ?_
     refine c_norm [(0, .slice a_p0 (p0).length c_p0), (1, .slice a_p1 (p1).length c_p1), (2, .slice a_p2 (p2).length c_p2), (8, .slice a12 (d13_l17).length c12), (9, Vi v_t_s9_l14), (114, .bool true)] ⟨rfl, rfl, rfl, rfl, rfl, rfl, trivial⟩ (fun J => ?_)
     refine c_true rfl ?_
     refine c_sp ?_
     refine x_u 1 [(6, .bool false)] ?_
     refine x_ek ?_
     refine c_ret ?_
     refine k_block_ret ?_
     refine k_then_ret ?_
     have hx := some_inj h
     subst hx
     have hy := some_inj hn14
     subst hy
     replace h := h14
     refine k_then_ret ?_
     refine k_block_ret ?_
     refine k_then_ret ?_
     refine r_ret (r_vals [.bool false] ⟨rfl, trivial⟩ ?_)
     have hx := some_inj h
     subst hx
     have hmr : MS (wl17).drew [M] := hms.pick [some 1] _ rfl
     have hsu : ∀ x ∈ fl [M], x ∈ fl [blk a12, M] := pick_sub [some 1] _ rfl
     exact ⟨rfl, hev⟩
   refine x_u 3 [(102, .slice a_p1 (p1).length c_p1), (103, .slice a_p2 (p2).length c_p2), (104, Vi v_t_s9_l14)] ?_
   obtain ⟨x38, hx38, h⟩ := bind_some h
   obtain ⟨ad38, cs38, hr38, hc38, hR⟩ := reads_index (Mo := []) tsl26 hs_p2 hx38
   obtain ⟨a39, c39, rfl, hs39⟩ := hR
   refine x_indexAddr (xv := .slice a_p2 (p2).length c_p2) (yv := Vi v_t_s9_l14) (.pointer (some ad38)) rfl rfl rfl rfl hr38 ?_
   refine x_load (xv := .pointer (some ad38)) (.slice a39 (x38).length c39) rfl rfl rfl (reads_cell0 tcell22 hc38 (fun _ h => by cases h)) ?_
   refine x_u 2 [(108, .slice a_p0 (p0).length c_p0), (109, Vi v_t_s9_l14)] ?_
   obtain ⟨x42, hx42, h⟩ := bind_some h
   obtain ⟨ad42, cs42, hr42, hc42, hR⟩ := reads_index (Mo := []) tsl25 hs_p0 hx42
   obtain ⟨_, _, rfl, rfl, rfl⟩ := hR
   refine x_indexAddr (xv := .slice a_p0 (p0).length c_p0) (yv := Vi v_t_s9_l14) (.pointer (some ad42)) rfl rfl rfl rfl hr42 ?_
   refine x_fieldAddr (xv := .pointer (some ad42)) (.pointer (some (Addr.add ad42 1))) rfl rfl rfl (reads_field tfld45_1 _ _) ?_
   refine x_load (xv := .pointer (some (Addr.add ad42 1))) (Vi x42.2) rfl rfl rfl (reads_cell tcell3 hc42 (fun _ h => by cases h) 1 _ rfl) ?_
   obtain ⟨x44, hx, h⟩ := bind_some h
   have hpk : MS (wl17).drew ([] ++ [blk a12, M]) := hms.pick [some 0, some 1] _ rfl
   have hsb0 : ∀ x ∈ fl ([] ++ [blk a12, M]), x ∈ fl [blk a12, M] := pick_sub [some 0, some 1] _ rfl
   have hsb : ∀ x ∈ fl ([] ++ [(fl [blk a12, M])]), x ∈ fl [blk a12, M] := fun x hx => hsb0 x (fl_unfold x hx)
   have hcall := r42_sum_w a_p1 c_p1 p1 a39 c39 x38 _ (wl17).drew (fl [blk a12, M]) (MS.fold (P := []) hpk) (hs_p1.sub hsb) (hs39.sub hsb) hx
   refine x_call 31 #[] #[] [.slice a_p1 (p1).length c_p1, .slice a39 (x38).length c39] _ rfl rfl rfl rfl hcall ?_
   rintro v w45 ⟨rfl, he45⟩
   clear hcall hx
   refine ⟨.inr he45, ?_⟩
   have hst := Stp.ext (ls := [blk a12, M]) he45
   replace hs_p0 := hs_p0.step hst
   replace hs_p1 := hs_p1.step hst
   replace hs_p2 := hs_p2.step hst
   replace ho12 := ho12.step hst he45 nn2
   replace hc34 := hc34.step hst
   replace hc36 := hc36.step hst
   replace hs39 := hs39.step hst
   replace hc38 := hc38.step hst
   replace hc42 := hc42.step hst
   replace hms := hms.ev he45
   replace hev := hev.ext he45
   clear hpk hsb hsb0
   refine x_u 2 [(113, .bool (decide (x44 > x42.2))), (114, .bool (decide (x44 > x42.2)))] ?_
   refine x_ek ?_
   refine c_norm [(0, .slice a_p0 (p0).length c_p0), (1, .slice a_p1 (p1).length c_p1), (2, .slice a_p2 (p2).length c_p2), (8, .slice a12 (d13_l17).length c12), (9, Vi v_t_s9_l14), (114, .bool (decide (x44 > x42.2)))] ⟨rfl, rfl, rfl, rfl, rfl, rfl, trivial⟩ (fun J => ?_)
   refine c_if (decide (x44 > x42.2)) rfl h (fun h => ?_) (fun h => ?_)
   · refine c_sp ?_
     refine x_u 1 [(6, .bool false)] ?_
     refine x_ek ?_
     refine c_ret ?_
     refine k_block_ret ?_
     refine k_then_ret ?_
     have hx := some_inj h
     subst hx
     have hy := some_inj hn14
     subst hy
     replace h := h14
     refine k_then_ret ?_
     refine k_block_ret ?_
     refine k_then_ret ?_
     refine r_ret (r_vals [.bool false] ⟨rfl, trivial⟩ ?_)
     have hx := some_inj h
     subst hx
     have hmr : MS w45 [M] := hms.pick [some 1] _ rfl
     have hsu : ∀ x ∈ fl [M], x ∈ fl [blk a12, M] := pick_sub [some 1] _ rfl
     exact ⟨rfl, hev⟩
   refine c_skip ?_
   refine k_block ?_
   refine k_then ?_
   refine c_plain ?_
   refine x_u 3 [(52, Vi v_t_s9_l14), (53, Vi (IntKind.i64.wrap (v_t_s9_l14 + 1))), (9, Vi (IntKind.i64.wrap (v_t_s9_l14 + 1)))] ?_
   refine x_end rfl ?_
   have hx := some_inj h
   subst hx
   exact k_then ⟨(m14, d13_l17, IntKind.i64.wrap (v_t_s9_l14 + 1)), ⟨rfl, rfl, rfl, rfl, rfl, trivial⟩, ⟨hn14, hev, hms, hfr, hs_p0, hs_p1, hs_p2, ho12⟩, Nat.lt_succ_self _⟩
 refine c_exit ?_
 refine k_then_exit ?_
 have hx := some_inj h
 subst hx
 have hy := some_inj hn14
 subst hy
 replace h := h14
 refine k_then_exit ?_
 refine k_block_in ?_
 refine k_then ?_
 refine c_norm [] trivial (fun J => ?_)
 refine c_sp ?_
 refine x_u 1 [(6, .bool true)] ?_
 refine x_ek ?_
 refine c_ret ?_
 refine r_ret (r_vals [.bool true] ⟨rfl, trivial⟩ ?_)
 have hx := some_inj h
 subst hx
 have hmr : MS wl14 [M] := hms.pick [some 1] _ rfl
 have hsu : ∀ x ∈ fl [M], x ∈ fl [blk a12, M] := pick_sub [some 1] _ rfl
 exact ⟨rfl, hev⟩
def r42_Where_L4 (p0 : List (List Int)) (p1 : Int) (v_t_s6_l2 : Int) (s : Int) : Option (Step Int (Int ⊕ Unit)) :=
match s with
| i_s7_l4 =>
((idx p0 v_t_s6_l2).bind fun x6 =>
(if (decide (i_s7_l4 < ((x6).length : Int))) = true then
((idx p0 v_t_s6_l2).bind fun x10 =>
((idx x10 i_s7_l4).bind fun x14 =>
(if (x14 == p1) = true then
some (.done (.inl i_s7_l4))
else
some (.next (IntKind.i64.wrap (i_s7_l4 + 1))))))
else
some (.done (.inr ()))))

def r42_Where_L2 (p0 : List (List Int)) (p1 : Int) (s : Int) : Option (Step Int ((Int × Int) ⊕ Unit)) :=
match s with
| v_t_s6_l2 =>
(if (decide (v_t_s6_l2 < ((p0).length : Int))) = true then
((loop (r42_Where_L4 p0 p1 v_t_s6_l2) 0).bind fun d => match d with
| (.inl t5__s5_x400) => some (.done (.inl (v_t_s6_l2, t5__s5_x400)))
| (.inr _) => some (.next (IntKind.i64.wrap (v_t_s6_l2 + 1))))
else
some (.done (.inr ())))

def r42_Where (p0 : List (List Int)) (p1 : Int) : Option (Int × Int) :=
((loop (r42_Where_L2 p0 p1) 0).bind fun d => match d with
| (.inl (t4__s4_x200, t5__s5_x200)) => some (t4__s4_x200, t5__s5_x200)
| (.inr _) => some ((-1), (-1)))

theorem r42_Where_w (a_p0 : Option Addr) (c_p0 : Nat) (p0 : List (List Int)) (p1 : Int) (r : Int × Int) (w : World) (M : List Nat) (hms : MS w [M]) (hs_p0 : SlR (eSl (eInt .i64)) w (fl [M]) a_p0 c_p0 p0) (h : r42_Where p0 p1 = some r) : CallVC Try.prog 21 [Vl a_p0 p0 c_p0, Vi p1] w fun v w' => v = .tuple #[Vi r.1, Vi r.2] ∧ Ev [] w w' := by
 refine calls_vc hmx Try.func21 (by kernel_rfl) rfl (rs := [.tmp 4, .tmp 5]) rfl (by kernel_rfl) (args := [Vl a_p0 p0 c_p0, Vi p1]) rfl ?_
 have hev : Ev [] w w := Ev.refl _ _
 have hfr : FR w.heap.size [] := FR.nil _
 refine c_sp ?_
 refine x_u 2 [(4, Vi 0), (5, Vi 0)] ?_
 refine x_ek ?_
 refine c_seq ?_
 refine c_sp ?_
 refine x_u 1 [(6, Vi 0)] ?_
 refine x_ek ?_
 refine c_block ?_
 obtain ⟨d2, hd2, h2⟩ := bind_some h
 obtain ⟨m2, hd2⟩ := loop_some hd2
 refine c_loop (loop_rule hmx (σ := Nat × Int) (fun s => match s with | (_, v_t_s6_l2) => [(0, Vl a_p0 p0 c_p0), (1, Vi p1), (6, Vi v_t_s6_l2)]) (fun s w' => match s with | (m, v_t_s6_l2) => loopN (r42_Where_L2 p0 p1) m v_t_s6_l2 = some d2 ∧ Ev [] w w' ∧ MS w' [M] ∧ FR w.heap.size [] ∧ SlR (eSl (eInt .i64)) w' (fl [M]) a_p0 c_p0 p0) (fun s => s.1) (m2, 0) ⟨rfl, rfl, rfl, trivial⟩ ⟨hd2, hev, hms, hfr, hs_p0⟩ ?_)
 rintro ⟨m2, v_t_s6_l2⟩ J wl2 ⟨hn2, hev, hms, hfr, hs_p0⟩
 rcases m2 with _ | m2
 · exact (loopN_zero hn2).elim
 obtain ⟨t2, h, hn2⟩ := bind_some hn2
 refine c_seq ?_
 refine c_sp ?_
 refine x_u 2 [(8, Vi v_t_s6_l2), (9, Vl a_p0 p0 c_p0)] ?_
 refine x_len (vs := [Vl a_p0 p0 c_p0]) (Vi ((p0).length : Int)) rfl rfl rfl (reads_len tsl26 _ _ _ _ _) ?_
 refine x_u 1 [(11, .bool (decide (v_t_s6_l2 < ((p0).length : Int))))] ?_
 refine x_ek ?_
 refine c_norm [(0, Vl a_p0 p0 c_p0), (1, Vi p1), (6, Vi v_t_s6_l2), (11, .bool (decide (v_t_s6_l2 < ((p0).length : Int))))] ⟨rfl, rfl, rfl, rfl, trivial⟩ (fun J => ?_)
 refine c_if (decide (v_t_s6_l2 < ((p0).length : Int))) rfl h (fun h => ?_) (fun h => ?_)
 · refine c_skip ?_
   refine k_then ?_
   refine c_seq ?_
   refine c_block ?_
   refine c_sp ?_
   refine x_u 1 [(7, Vi 0)] ?_
   refine x_ek ?_
   refine c_block ?_
   obtain ⟨d4, hd4, h4⟩ := bind_some h
   obtain ⟨m4, hd4⟩ := loop_some hd4
   refine c_loop (loop_rule hmx (σ := Nat × Int) (fun s => match s with | (_, i_s7_l4) => [(0, Vl a_p0 p0 c_p0), (1, Vi p1), (6, Vi v_t_s6_l2), (7, Vi i_s7_l4)]) (fun s w' => match s with | (m, i_s7_l4) => loopN (r42_Where_L4 p0 p1 v_t_s6_l2) m i_s7_l4 = some d4 ∧ Ev [] w w' ∧ MS w' [M] ∧ FR w.heap.size [] ∧ SlR (eSl (eInt .i64)) w' (fl [M]) a_p0 c_p0 p0) (fun s => s.1) (m4, 0) ⟨rfl, rfl, rfl, rfl, trivial⟩ ⟨hd4, hev, hms, hfr, hs_p0⟩ ?_)
   rintro ⟨m4, i_s7_l4⟩ J wl4 ⟨hn4, hev, hms, hfr, hs_p0⟩
   rcases m4 with _ | m4
   · exact (loopN_zero hn4).elim
   obtain ⟨t4, h, hn4⟩ := bind_some hn4
   refine c_seq ?_
   refine c_sp ?_
   refine x_u 3 [(14, Vi i_s7_l4), (15, Vl a_p0 p0 c_p0), (16, Vi v_t_s6_l2)] ?_
   obtain ⟨x6, hx6, h⟩ := bind_some h
   obtain ⟨ad6, cs6, hr6, hc6, hR⟩ := reads_index (Mo := []) tsl26 hs_p0 hx6
   obtain ⟨a7, c7, rfl, hs7⟩ := hR
   refine x_indexAddr (xv := Vl a_p0 p0 c_p0) (yv := Vi v_t_s6_l2) (.pointer (some ad6)) rfl rfl rfl rfl hr6 ?_
   refine x_load (xv := .pointer (some ad6)) (Vl a7 x6 c7) rfl rfl rfl (reads_cell0 tcell22 hc6 (fun _ h => by cases h)) ?_
   refine x_len (vs := [Vl a7 x6 c7]) (Vi ((x6).length : Int)) rfl rfl rfl (reads_len tsl22 _ _ _ _ _) ?_
   refine x_u 1 [(20, .bool (decide (i_s7_l4 < ((x6).length : Int))))] ?_
   refine x_ek ?_
   refine c_norm [(0, Vl a_p0 p0 c_p0), (1, Vi p1), (6, Vi v_t_s6_l2), (7, Vi i_s7_l4), (20, .bool (decide (i_s7_l4 < ((x6).length : Int))))] ⟨rfl, rfl, rfl, rfl, rfl, trivial⟩ (fun J => ?_)
   refine c_if (decide (i_s7_l4 < ((x6).length : Int))) rfl h (fun h => ?_) (fun h => ?_)
   · refine c_skip ?_
     refine k_then ?_
     refine c_seq ?_
     refine c_block ?_
     refine c_sp ?_
     refine x_u 2 [(23, Vl a_p0 p0 c_p0), (24, Vi v_t_s6_l2)] ?_
     obtain ⟨x10, hx10, h⟩ := bind_some h
     obtain ⟨ad10, cs10, hr10, hc10, hR⟩ := reads_index (Mo := []) tsl26 hs_p0 hx10
     obtain ⟨a11, c11, rfl, hs11⟩ := hR
     refine x_indexAddr (xv := Vl a_p0 p0 c_p0) (yv := Vi v_t_s6_l2) (.pointer (some ad10)) rfl rfl rfl rfl hr10 ?_
     refine x_load (xv := .pointer (some ad10)) (Vl a11 x10 c11) rfl rfl rfl (reads_cell0 tcell22 hc10 (fun _ h => by cases h)) ?_
     refine x_u 1 [(27, Vi i_s7_l4)] ?_
     obtain ⟨x14, hx14, h⟩ := bind_some h
     obtain ⟨ad14, cs14, hr14, hc14, hR⟩ := reads_index (Mo := []) tsl22 hs11 hx14
     obtain rfl := hR
     refine x_indexAddr (xv := Vl a11 x10 c11) (yv := Vi i_s7_l4) (.pointer (some ad14)) rfl rfl rfl rfl hr14 ?_
     refine x_load (xv := .pointer (some ad14)) (Vi x14) rfl rfl rfl (reads_cell0 tcell3 hc14 (fun _ h => by cases h)) ?_
     refine x_u 2 [(30, Vi p1), (31, .bool (x14 == p1))] ?_
     refine x_ek ?_
     refine c_if (x14 == p1) rfl h (fun h => ?_) (fun h => ?_)
     · refine c_sp ?_
       refine x_u 4 [(32, Vi v_t_s6_l2), (33, Vi i_s7_l4), (4, Vi v_t_s6_l2), (5, Vi i_s7_l4)] ?_
       refine x_ek ?_
       refine c_norm [(4, Vi v_t_s6_l2), (5, Vi i_s7_l4)] ⟨rfl, rfl, trivial⟩ (fun J => ?_)
       refine c_ret ?_
       refine k_block_ret ?_
       refine k_then_ret ?_
       have hx := some_inj h
       subst hx
       have hy := some_inj hn4
       subst hy
       replace h := h4
       refine k_then_ret ?_
       refine k_block_ret ?_
       refine k_block_ret ?_
       refine k_then_ret ?_
       have hx := some_inj h
       subst hx
       have hy := some_inj hn2
       subst hy
       replace h := h2
       refine k_then_ret ?_
       refine k_block_ret ?_
       refine k_then_ret ?_
       refine r_ret (r_vals [Vi v_t_s6_l2, Vi i_s7_l4] ⟨rfl, rfl, trivial⟩ ?_)
       have hx := some_inj h
       subst hx
       have hmr : MS wl4 [M] := hms.pick [some 0] _ rfl
       have hsu : ∀ x ∈ fl [M], x ∈ fl [M] := pick_sub [some 0] _ rfl
       exact ⟨rfl, hev⟩
     refine c_skip ?_
     refine k_block ?_
     refine k_then ?_
     refine c_plain ?_
     refine x_u 3 [(21, Vi i_s7_l4), (22, Vi (IntKind.i64.wrap (i_s7_l4 + 1))), (7, Vi (IntKind.i64.wrap (i_s7_l4 + 1)))] ?_
     refine x_end rfl ?_
     have hx := some_inj h
     subst hx
     exact k_then ⟨(m4, IntKind.i64.wrap (i_s7_l4 + 1)), ⟨rfl, rfl, rfl, rfl, trivial⟩, ⟨hn4, hev, hms, hfr, hs_p0⟩, Nat.lt_succ_self _⟩
   refine c_exit ?_
   refine k_then_exit ?_
   have hx := some_inj h
   subst hx
   have hy := some_inj hn4
   subst hy
   replace h := h4
   refine k_then_exit ?_
   refine k_block_in ?_
   refine k_block ?_
   refine k_then ?_
   refine c_norm [(0, Vl a_p0 p0 c_p0), (1, Vi p1), (6, Vi v_t_s6_l2)] ⟨rfl, rfl, rfl, trivial⟩ (fun J => ?_)
   refine c_plain ?_
   refine x_u 3 [(12, Vi v_t_s6_l2), (13, Vi (IntKind.i64.wrap (v_t_s6_l2 + 1))), (6, Vi (IntKind.i64.wrap (v_t_s6_l2 + 1)))] ?_
   refine x_end rfl ?_
   have hx := some_inj h
   subst hx
   exact k_then ⟨(m2, IntKind.i64.wrap (v_t_s6_l2 + 1)), ⟨rfl, rfl, rfl, trivial⟩, ⟨hn2, hev, hms, hfr, hs_p0⟩, Nat.lt_succ_self _⟩
 refine c_exit ?_
 refine k_then_exit ?_
 have hx := some_inj h
 subst hx
 have hy := some_inj hn2
 subst hy
 replace h := h2
 refine k_then_exit ?_
 refine k_block_in ?_
 refine k_then ?_
 refine c_norm [] trivial (fun J => ?_)
 refine c_sp ?_
 refine x_u 2 [(4, Vi (-1)), (5, Vi (-1))] ?_
 refine x_ek ?_
 refine c_ret ?_
 refine r_ret (r_vals [Vi (-1), Vi (-1)] ⟨rfl, rfl, trivial⟩ ?_)
 have hx := some_inj h
 subst hx
 have hmr : MS wl2 [M] := hms.pick [some 0] _ rfl
 have hsu : ∀ x ∈ fl [M], x ∈ fl [M] := pick_sub [some 0] _ rfl
 exact ⟨rfl, hev⟩
def r42_Copy_L2 (p0 : List (List Int)) (s : (List (List Int)) × Int) : Option (Step ((List (List Int)) × Int) (List (List Int))) :=
match s with
| (d4_l2, v_t_s4_l2) =>
(if (decide (v_t_s4_l2 < ((p0).length : Int))) = true then
((idx p0 v_t_s4_l2).bind fun x8 =>
(if ([] : List Int).length + x8.length ≤ 4294967296 then
(if d4_l2.length + 1 ≤ 4294967296 then
some (.next ((d4_l2 ++ [(([] : List Int) ++ x8)]), IntKind.i64.wrap (v_t_s4_l2 + 1)))
else none)
else none))
else
some (.done d4_l2))

def r42_Copy (p0 : List (List Int)) : Option (List (List Int)) :=
((loop (r42_Copy_L2 p0) (([] : List (List Int)), 0)).bind fun d => match d with
| d4_x2 => some d4_x2)

theorem r42_Copy_w (a_p0 : Option Addr) (c_p0 : Nat) (p0 : List (List Int)) (r : (List (List Int))) (w : World) (M : List Nat) (hms : MS w [M]) (hs_p0 : SlR (eSl (eInt .i64)) w (fl [M]) a_p0 c_p0 p0) (h : r42_Copy p0 = some r) : CallVC Try.prog 30 [Vl a_p0 p0 c_p0] w fun v w' => ∃ (a0' : Option Addr), ∃ (c0' : Nat), ∃ (B2' : List Nat), v = Vl a0' r c0' ∧ Ev [] w w' ∧ MS w' [B2', M] ∧ FR w.heap.size [B2'] ∧ OwnR (eInt .i64) 3 22 w' B2' a0' c0' r none := by
 refine calls_vc hmx Try.func30 (by kernel_rfl) rfl (rs := [.tmp 2]) rfl (by kernel_rfl) (args := [Vl a_p0 p0 c_p0]) rfl ?_
 have hev : Ev [] w w := Ev.refl _ _
 have hfr : FR w.heap.size [] := FR.nil _
 refine c_sp ?_
 refine x_u 1 [(2, .slice none 0 0)] ?_
 refine x_ek ?_
 refine c_sp ?_
 refine x_u 1 [(3, .slice none 0 0)] ?_
 refine x_ek ?_
 refine c_seq ?_
 refine c_sp ?_
 refine x_u 1 [(4, Vi 0)] ?_
 refine x_ek ?_
 refine c_block ?_
 have hst := Stp.push (ls := [M]) (l := ([] : List Nat)) (Ev.refl [] w) (fun _ h => by cases h) (fun _ h => by cases h)
 replace hs_p0 := hs_p0.step hst
 replace hms := hms.push (l := ([] : List Nat)) (Ev.refl [] _) (fun _ h => by cases h)
 replace hfr := hfr.push (l := ([] : List Nat)) (fun _ h => by cases h)
 have ho3 := OwnR.nil (eInt .i64) 3 22 w ([] : List Nat)
 obtain ⟨d2, hd2, h2⟩ := bind_some h
 obtain ⟨m2, hd2⟩ := loop_some hd2
 refine c_loop (loop_rule hmx (σ := Nat × (List (List Int)) × Int × Option Addr × Nat × List Nat) (fun s => match s with | (_, d4_l2, v_t_s4_l2, a4_l2, c4_l2, B4_l2) => [(0, Vl a_p0 p0 c_p0), (3, Vl a4_l2 d4_l2 c4_l2), (4, Vi v_t_s4_l2)]) (fun s w' => match s with | (m, d4_l2, v_t_s4_l2, a4_l2, c4_l2, B4_l2) => loopN (r42_Copy_L2 p0) m (d4_l2, v_t_s4_l2) = some d2 ∧ Ev [] w w' ∧ MS w' [B4_l2, M] ∧ FR w.heap.size [B4_l2] ∧ SlR (eSl (eInt .i64)) w' (fl [B4_l2, M]) a_p0 c_p0 p0 ∧ OwnR (eInt .i64) 3 22 w' B4_l2 a4_l2 c4_l2 d4_l2 none) (fun s => s.1) (m2, ([] : List (List Int)), 0, none, 0, ([] : List Nat)) ⟨rfl, rfl, rfl, trivial⟩ ⟨hd2, hev, hms, hfr, hs_p0, ho3⟩ ?_)
 rintro ⟨m2, d4_l2, v_t_s4_l2, a4_l2, c4_l2, B4_l2⟩ J wl2 ⟨hn2, hev, hms, hfr, hs_p0, hj4_l2⟩
 rcases m2 with _ | m2
 · exact (loopN_zero hn2).elim
 obtain ⟨t2, h, hn2⟩ := bind_some hn2
 refine c_seq ?_
 refine c_sp ?_
 refine x_u 2 [(5, Vi v_t_s4_l2), (6, Vl a_p0 p0 c_p0)] ?_
 refine x_len (vs := [Vl a_p0 p0 c_p0]) (Vi ((p0).length : Int)) rfl rfl rfl (reads_len tsl26 _ _ _ _ _) ?_
 refine x_u 1 [(8, .bool (decide (v_t_s4_l2 < ((p0).length : Int))))] ?_
 refine x_ek ?_
 refine c_norm [(0, Vl a_p0 p0 c_p0), (3, Vl a4_l2 d4_l2 c4_l2), (4, Vi v_t_s4_l2), (8, .bool (decide (v_t_s4_l2 < ((p0).length : Int))))] ⟨rfl, rfl, rfl, rfl, trivial⟩ (fun J => ?_)
 refine c_if (decide (v_t_s4_l2 < ((p0).length : Int))) rfl h (fun h => ?_) (fun h => ?_)
 · refine c_skip ?_
   refine k_then ?_
   refine c_seq ?_
   refine c_block ?_
   refine c_plain ?_
   refine x_u 1 [(11, Vl a4_l2 d4_l2 c4_l2)] ?_
   refine x_buildSlice (vs := []) #[] 3 rfl rfl rfl (by kernel_rfl) (fun b6 w6 hq6 hb6 he6 hz6 => ?_)
   refine inl1 ?_
   obtain ⟨a6, ea6⟩ : ∃ a, a = some (⟨b6, 0, none⟩ : Addr) := ⟨_, rfl⟩
   have hw6 : ∀ M, OwnS (eInt .i64) 3 w6 M a6 0 ([] : List Int) := fun M => ea6 ▸ own_of_box hb6 (by decide) rfl rfl (cells_at (cs := []) CellsOf.nil)
   have hn6 : ∀ b ∈ blk a6, wl2.heap.size ≤ b ∧ b < w6.heap.size := by subst ea6; intro b hb; simp only [blk, List.mem_singleton] at hb; subst hb; exact ⟨Nat.le_of_eq hq6.symm, lt_of_heap hb6⟩
   clear hb6
   have hst := Stp.push (ls := [B4_l2, M]) (l := blk a6) he6 (fun _ h => by cases h) (fun b hb => (hn6 b hb).1)
   replace hs_p0 := hs_p0.step hst
   replace hj4_l2 := hj4_l2.step (plain_int _) he6 nn2
   replace hms := hms.push he6 hn6
   replace hfr := hfr.push (fun b hb => Nat.le_trans hev.size (hn6 b hb).1)
   replace hev := hev.ext he6
   have ho6 := hw6 (fl [blk a6, B4_l2, M])
   clear hw6
   rw [← ea6]
   refine x_u 2 [(13, Vl a_p0 p0 c_p0), (14, Vi v_t_s4_l2)] ?_
   obtain ⟨x8, hx8, h⟩ := bind_some h
   obtain ⟨ad8, cs8, hr8, hc8, hR⟩ := reads_index (Mo := []) tsl26 hs_p0 hx8
   obtain ⟨a9, c9, rfl, hs9⟩ := hR
   refine x_indexAddr (xv := Vl a_p0 p0 c_p0) (yv := Vi v_t_s4_l2) (.pointer (some ad8)) rfl rfl rfl rfl hr8 ?_
   refine x_load (xv := .pointer (some ad8)) (Vl a9 x8 c9) rfl rfl rfl (reads_cell0 tcell22 hc8 (fun _ h => by cases h)) ?_
   have hg := guard_l h
   replace h := guard_r h
   obtain ⟨a12, c12, w12, hr12, he12, hn12, hm12, hw12⟩ := own_appendN tel22 22 ho6 (mem_flat 0 rfl) hs9 hg
   refine x_builtin (vs := [.slice a6 (([] : List Int)).length 0, Vl a9 x8 c9]) _ w12 rfl rfl rfl rfl (run_value _ _ _ _ hr12) ?_
   refine inl1 ?_
   have hst : Stp (fl [blk a6, B4_l2, M]) w6 (fl [blk a12, B4_l2, M]) w12 := Stp.upd 0 he12 rfl (fun b hb => (hn12 b hb).1)
   replace hs_p0 := hs_p0.step hst
   replace hj4_l2 := hj4_l2.step (plain_int _) he12 (hms.apart 1 0 rfl rfl rfl)
   replace hs9 := hs9.step hst
   replace hc8 := hc8.step hst
   replace hms : MS w12 [blk a12, B4_l2, M] := hms.upd 0 he12 rfl hn12
   have hfr2 : FR w.heap.size [blk a12, B4_l2] := hfr.upd 0 rfl hev.size (fun b hb => (hn12 b hb).1)
   replace hev := hev.then he12 (fun b hb => .inr (hfr.at 0 rfl b hb))
   replace hfr := hfr2
   clear hfr2
   replace ho6 := hw12 (fl [blk a12, B4_l2, M]) hst.new
   clear hw12
   refine x_buildSlice (vs := [(0, .slice a12 ((([] : List Int) ++ x8)).length c12)]) #[.slice a12 ((([] : List Int) ++ x8)).length c12] 22 rfl rfl rfl (by kernel_rfl) (fun b13 w13 hq13 hb13 he13 hz13 => ?_)
   refine inl1 ?_
   have hms0 := hms
   have hst := Stp.ext (ls := [blk a12, B4_l2, M]) he13
   replace hs_p0 := hs_p0.step hst
   replace hj4_l2 := hj4_l2.step (plain_int _) he13 nn2
   replace ho6 := ho6.step hst he13 nn2
   replace hs9 := hs9.step hst
   replace hc8 := hc8.step hst
   replace hms := hms.ev he13
   replace hev := hev.ext he13
   have hs13 : SlR eHdr w13 (fl [blk a12, B4_l2, M]) (Ad b13 0) 1 ([(a12, ((([] : List Int) ++ x8)).length, c12)] : List (Option Addr × Nat × Nat)) := ro_of_box hms0 hq13 hb13 rfl rfl (cells_at (cs := [.slice a12 ((([] : List Int) ++ x8)).length c12]) (CellsOf.cons (c := [.slice a12 ((([] : List Int) ++ x8)).length c12]) rfl CellsOf.nil))
   clear hb13 hms0
   have hg := guard_l h
   replace h := guard_r h
   obtain ⟨a15, c15, w15, B15, hr15, he15, hez15, hn15, hR15⟩ := OwnR.app (P := Try.prog) (plain_int _) tel26 26 hj4_l2 hs13 (mem_flat 1 rfl) ho6 (hms.apart 0 1 rfl rfl rfl) (hms.ltat 1 rfl) hg
   refine x_builtin (vs := [Vl a4_l2 d4_l2 c4_l2, .slice (Ad b13 0) (([(a12, ((([] : List Int) ++ x8)).length, c12)] : List (Option Addr × Nat × Nat))).length 1]) _ w15 rfl rfl rfl rfl (run_value _ _ _ _ hr15) ?_
   refine inl1 ?_
   have hms2 := hms.merge (C := blk a12 ++ B4_l2) 0 1 rfl rfl (fun x hx => List.mem_append.1 hx)
   replace hfr : FR w.heap.size [blk a12 ++ B4_l2] := (FR.cons (fun b hb => (List.mem_append.1 hb).elim (hfr.at 0 rfl b) (hfr.at 1 rfl b)) (FR.nil _))
   have hsu : ∀ x ∈ fl [blk a12 ++ B4_l2, M], x ∈ fl [blk a12, B4_l2, M] := merge_sub (ls := [blk a12, B4_l2, M]) (C := blk a12 ++ B4_l2) 0 1 rfl rfl (fun x hx => List.mem_append.1 hx)
   replace hms : MS w13 [blk a12 ++ B4_l2, M] := hms2
   replace hs_p0 := hs_p0.sub hsu
   replace hs9 := hs9.sub hsu
   replace hc8 := hc8.sub hsu
   replace hs13 := hs13.sub hsu
   clear hms2 hsu
   have hst : Stp (fl [blk a12 ++ B4_l2, M]) w13 (fl [B15, M]) w15 := Stp.upd 0 he15 rfl (fun b hb => (hn15 b hb).1)
   replace hs_p0 := hs_p0.step hst
   replace hs9 := hs9.step hst
   replace hc8 := hc8.step hst
   replace hs13 := hs13.step hst
   replace hms : MS w15 [B15, M] := hms.upd 0 he15 rfl hn15
   have hfr2 : FR w.heap.size [B15] := hfr.upd 0 rfl hev.size (fun b hb => (hn15 b hb).1)
   replace hev := hev.then he15 (fun b hb => .inr (hfr.at 0 rfl b hb))
   replace hfr := hfr2
   clear hfr2
   replace hj4_l2 := hR15
   refine x_u 1 [(3, .slice a15 ((d4_l2 ++ [(([] : List Int) ++ x8)])).length c15)] ?_
   refine x_end rfl ?_
   refine k_block ?_
   refine k_then ?_
   refine c_plain ?_
   refine x_u 3 [(9, Vi v_t_s4_l2), (10, Vi (IntKind.i64.wrap (v_t_s4_l2 + 1))), (4, Vi (IntKind.i64.wrap (v_t_s4_l2 + 1)))] ?_
   refine x_end rfl ?_
   have hx := some_inj h
   subst hx
   exact k_then ⟨(m2, (d4_l2 ++ [(([] : List Int) ++ x8)]), IntKind.i64.wrap (v_t_s4_l2 + 1), a15, c15, B15), ⟨rfl, rfl, rfl, trivial⟩, ⟨hn2, hev, hms, hfr, hs_p0, hj4_l2⟩, Nat.lt_succ_self _⟩
 refine c_exit ?_
 refine k_then_exit ?_
 have hx := some_inj h
 subst hx
 have hy := some_inj hn2
 subst hy
 replace h := h2
 refine k_then_exit ?_
 refine k_block_in ?_
 refine k_then ?_
 refine c_norm [(3, Vl a4_l2 d4_l2 c4_l2)] ⟨rfl, trivial⟩ (fun J => ?_)
 refine c_sp ?_
 refine x_u 2 [(20, Vl a4_l2 d4_l2 c4_l2), (2, Vl a4_l2 d4_l2 c4_l2)] ?_
 refine x_ek ?_
 refine c_ret ?_
 refine r_ret (r_vals [Vl a4_l2 d4_l2 c4_l2] ⟨rfl, trivial⟩ ?_)
 have hx := some_inj h
 subst hx
 have hmr : MS wl2 [B4_l2, M] := hms.pick [some 0, some 1] _ rfl
 have hsu : ∀ x ∈ fl [B4_l2, M], x ∈ fl [B4_l2, M] := pick_sub [some 0, some 1] _ rfl
 have hfe : FR w.heap.size [B4_l2] := hfr.pick [some 0] _ rfl
 exact ⟨a4_l2, c4_l2, B4_l2, rfl, hev, hmr, hfe, hj4_l2⟩
def r42_Apply_J33 (p0 : List ((List UInt8) × Int)) (p1 : List Int) (p3_2 : Int) (d15_j33 : List (List Int)) : Option ((List (List Int)) × Int) :=
((idx d15_j33 p3_2).bind fun x54 =>
((idx p0 p3_2).bind fun x56 =>
((r42_sum p1 x54).bind fun x58 =>
(if (decide (x58 > x56.2)) = true then
some ([], 14)
else
some (d15_j33, 0)))))

def r42_Apply_J16 (p0 : List ((List UInt8) × Int)) (p1 : List Int) (p3_0 : Int) (p3_2 : Int) (p3_3 : Bool) (d15_j16 : List (List Int)) : Option ((List (List Int)) × Int) :=
(if (decide (p3_2 < 0)) = true then
some (d15_j16, 0)
else
(if p3_3 = true then
((idx d15_j16 p3_2).bind fun x34 =>
(if ([p3_0] : List Int).length + x34.length ≤ 4294967296 then
((idx d15_j16 p3_2).bind fun x39 =>
r42_Apply_J33 p0 p1 p3_2 (d15_j16.set (Int.toNat p3_2) (([p3_0] : List Int) ++ x34)))
else none))
else
((idx d15_j16 p3_2).bind fun x44 =>
(if x44.length + ([p3_0]).length ≤ 4294967296 then
((idx d15_j16 p3_2).bind fun x51 =>
r42_Apply_J33 p0 p1 p3_2 (d15_j16.set (Int.toNat p3_2) (x44 ++ [p3_0])))
else none))))

def r42_Apply_J12 (p0 : List ((List UInt8) × Int)) (p1 : List Int) (p2 : List (List Int)) (p3_0 : Int) (p3_2 : Int) (p3_3 : Bool) (x10 : Int × Int) : Option ((List (List Int)) × Int) :=
((r42_Copy p2).bind fun x13 =>
(if (decide (x10.1 ≥ 0)) = true then
((idx x13 x10.1).bind fun x17 =>
(if 0 ≤ x10.2 ∧ x10.2 ≤ (x17.length : Int) then
((idx x13 x10.1).bind fun x21 =>
(if 0 ≤ IntKind.i64.wrap (x10.2 + 1) ∧ IntKind.i64.wrap (x10.2 + 1) ≤ (x21.length : Int) ∧ (x21.length : Int) ≤ (x21.length : Int) then
(if (x17.take (Int.toNat x10.2)).length + ((x21.drop (Int.toNat (IntKind.i64.wrap (x10.2 + 1)))).take (Int.toNat (x21.length : Int) - Int.toNat (IntKind.i64.wrap (x10.2 + 1)))).length ≤ 4294967296 then
((idx x13 x10.1).bind fun x29 =>
r42_Apply_J16 p0 p1 p3_0 p3_2 p3_3 (x13.set (Int.toNat x10.1) ((x17.take (Int.toNat x10.2)) ++ ((x21.drop (Int.toNat (IntKind.i64.wrap (x10.2 + 1)))).take (Int.toNat (x21.length : Int) - Int.toNat (IntKind.i64.wrap (x10.2 + 1)))))))
else none)
else none))
else none))
else
r42_Apply_J16 p0 p1 p3_0 p3_2 p3_3 x13))

def r42_Apply (p0 : List ((List UInt8) × Int)) (p1 : List Int) (p2 : List (List Int)) (p3_0 : Int) (p3_1 : Int) (p3_2 : Int) (p3_3 : Bool) : Option ((List (List Int)) × Int) :=
((r42_Valid p0 p1 p2).bind fun x7 =>
(if (!x7) = true then
some ([], 1)
else
(if (decide (p3_0 < 0)) = true then
some ([], 2)
else
(if (decide (p3_0 ≥ ((p1).length : Int))) = true then
some ([], 2)
else
(if (decide (p3_1 < (-1))) = true then
some ([], 2)
else
(if (decide (p3_1 ≥ ((p2).length : Int))) = true then
some ([], 2)
else
(if (decide (p3_2 < (-1))) = true then
some ([], 2)
else
(if (decide (p3_2 ≥ ((p2).length : Int))) = true then
some ([], 2)
else
((r42_Where p2 p3_0).bind fun x10 =>
(if (x10.1 != p3_1) = true then
some ([], 17)
else
(if (decide (x10.1 < 0)) = true then
(if (decide (p3_2 < 0)) = true then
some ([], 17)
else
r42_Apply_J12 p0 p1 p2 p3_0 p3_2 p3_3 x10)
else
r42_Apply_J12 p0 p1 p2 p3_0 p3_2 p3_3 x10)))))))))))

theorem r42_Apply_w (a_p0 : Option Addr) (c_p0 : Nat) (p0 : List ((List UInt8) × Int)) (a_p1 : Option Addr) (c_p1 : Nat) (p1 : List Int) (a_p2 : Option Addr) (c_p2 : Nat) (p2 : List (List Int)) (p3_0 : Int) (p3_1 : Int) (p3_2 : Int) (p3_3 : Bool) (r : (List (List Int)) × Int) (w : World) (M : List Nat) (hms : MS w [M]) (hs_p0 : SlR (eProd eStr (eInt .i64)) w (fl [M]) a_p0 c_p0 p0) (hs_p1 : SlR (eInt .i64) w (fl [M]) a_p1 c_p1 p1) (hs_p2 : SlR (eSl (eInt .i64)) w (fl [M]) a_p2 c_p2 p2) (h : r42_Apply p0 p1 p2 p3_0 p3_1 p3_2 p3_3 = some r) : CallVC Try.prog 17 [.slice a_p0 (p0).length c_p0, .slice a_p1 (p1).length c_p1, .slice a_p2 (p2).length c_p2, .agg #[Vi p3_0, Vi p3_1, Vi p3_2, .bool p3_3]] w fun v w' => ∃ (a0' : Option Addr), ∃ (c0' : Nat), ∃ (B2' : List Nat), v = .tuple #[.slice a0' (r.1).length c0', Vi r.2] ∧ Ev [] w w' ∧ MS w' [B2', M] ∧ FR w.heap.size [B2'] ∧ OwnR (eInt .i64) 3 22 w' B2' a0' c0' r.1 none := by
 refine calls_vc hmx Try.func17 (by kernel_rfl) rfl (rs := [.tmp 8, .tmp 9]) rfl (by kernel_rfl) (args := [.slice a_p0 (p0).length c_p0, .slice a_p1 (p1).length c_p1, .slice a_p2 (p2).length c_p2, .agg #[Vi p3_0, Vi p3_1, Vi p3_2, .bool p3_3]]) rfl ?_
 have hev : Ev [] w w := Ev.refl _ _
 have hfr : FR w.heap.size [] := FR.nil _
 refine c_sp ?_
 refine x_box (xv := .agg #[Vi p3_0, Vi p3_1, Vi p3_2, .bool p3_3]) rfl rfl rfl (fun b4 w4 hq4 hb4 he4 hz4 => ?_)
 replace hb4 : w4.heap[b4]? = some (.cells #[Vi p3_0, Vi p3_1, Vi p3_2, .bool p3_3] 30 (0, 0)) := hb4
 refine inl1 ?_
 have hst := Stp.box (ls := [M]) he4 hq4
 replace hs_p0 := hs_p0.step hst
 replace hs_p1 := hs_p1.step hst
 replace hs_p2 := hs_p2.step hst
 replace hms := hms.box he4 hq4 hb4
 replace hfr := hfr.box hev.size hq4
 replace hev := hev.ext he4
 refine x_u 2 [(8, .slice none 0 0), (9, Vi 0)] ?_
 refine x_ek ?_
 refine c_seq ?_
 refine c_sp ?_
 refine x_u 3 [(13, .slice a_p0 (p0).length c_p0), (14, .slice a_p1 (p1).length c_p1), (15, .slice a_p2 (p2).length c_p2)] ?_
 obtain ⟨x7, hx, h⟩ := bind_some h
 have hpk : MS w4 ([] ++ [[b4], M]) := hms.pick [some 0, some 1] _ rfl
 have hsb0 : ∀ x ∈ fl ([] ++ [[b4], M]), x ∈ fl [[b4], M] := pick_sub [some 0, some 1] _ rfl
 have hsb : ∀ x ∈ fl ([] ++ [(fl [[b4], M])]), x ∈ fl [[b4], M] := fun x hx => hsb0 x (fl_unfold x hx)
 have hcall := r42_Valid_w a_p0 c_p0 p0 a_p1 c_p1 p1 a_p2 c_p2 p2 _ w4 (fl [[b4], M]) (MS.fold (P := []) hpk) (hs_p0.sub hsb) (hs_p1.sub hsb) (hs_p2.sub hsb) hx
 refine x_call 20 #[] #[] [.slice a_p0 (p0).length c_p0, .slice a_p1 (p1).length c_p1, .slice a_p2 (p2).length c_p2] _ rfl rfl rfl rfl hcall ?_
 rintro v w8 ⟨rfl, he8⟩
 clear hcall hx
 refine inl1 ?_
 have hst := Stp.ext (ls := [[b4], M]) he8
 replace hs_p0 := hs_p0.step hst
 replace hs_p1 := hs_p1.step hst
 replace hs_p2 := hs_p2.step hst
 replace hb4 := he8.box hb4 nn
 replace hms := hms.ev he8
 replace hev := hev.ext he8
 clear hpk hsb hsb0
 refine x_u 1 [(17, .bool (!x7))] ?_
 refine x_ek ?_
 refine c_if (!x7) rfl h (fun h => ?_) (fun h => ?_)
 · refine c_sp ?_
   refine x_u 2 [(8, .slice none 0 0), (9, Vi 1)] ?_
   refine x_ek ?_
   refine c_ret ?_
   refine k_then_ret ?_
   refine r_ret (r_vals [.slice none 0 0, Vi 1] ⟨rfl, rfl, trivial⟩ ?_)
   have hx := some_inj h
   subst hx
   have hmr : MS w8 [([] : List Nat), M] := hms.pick [none, some 1] _ rfl
   have hsu : ∀ x ∈ fl [([] : List Nat), M], x ∈ fl [[b4], M] := pick_sub [none, some 1] _ rfl
   have hfe : FR w.heap.size [([] : List Nat)] := hfr.pick [none] _ rfl
   exact ⟨none, 0, ([] : List Nat), rfl, hev, hmr, hfe, OwnR.nil _ _ _ _ _⟩
 refine c_skip ?_
 refine k_then ?_
 refine c_seq ?_
 refine c_sp ?_
 refine x_fieldAddr (xv := Vp b4 0) (Vp b4 0) rfl rfl rfl (reads_field tfld30_0 _ _) ?_
 refine x_load (xv := Vp b4 0) (Vi p3_0) rfl rfl rfl (reads_box tcell3 hb4 nn 0 _ rfl) ?_
 refine x_u 2 [(20, .bool (decide (p3_0 < 0))), (21, .bool (decide (p3_0 < 0)))] ?_
 refine x_if 21 (decide (p3_0 < 0)) rfl h (fun h => ?_) (fun h => ?_)
 · refine x_u 30 [(22, undef), (23, undef), (24, undef), (25, undef), (26, undef), (27, .bool true), (28, .bool true), (29, undef), (30, undef), (31, undef), (32, .bool true), (33, .bool true), (34, undef), (35, undef), (36, undef), (37, undef), (38, undef), (39, .bool true), (40, .bool true), (41, undef), (42, undef), (43, undef), (44, .bool true), (45, .bool true), (46, undef), (47, undef), (48, undef), (49, undef), (50, undef), (51, .bool true)] ?_
   refine x_ek ?_
   refine c_norm [(0, .slice a_p0 (p0).length c_p0), (1, .slice a_p1 (p1).length c_p1), (2, .slice a_p2 (p2).length c_p2), (7, Vp b4 0), (51, .bool true)] ⟨rfl, rfl, rfl, rfl, rfl, trivial⟩ (fun J => ?_)
   refine c_true rfl ?_
   refine c_sp ?_
   refine x_u 2 [(8, .slice none 0 0), (9, Vi 2)] ?_
   refine x_ek ?_
   refine c_ret ?_
   refine k_then_ret ?_
   refine r_ret (r_vals [.slice none 0 0, Vi 2] ⟨rfl, rfl, trivial⟩ ?_)
   have hx := some_inj h
   subst hx
   have hmr : MS w8 [([] : List Nat), M] := hms.pick [none, some 1] _ rfl
   have hsu : ∀ x ∈ fl [([] : List Nat), M], x ∈ fl [[b4], M] := pick_sub [none, some 1] _ rfl
   have hfe : FR w.heap.size [([] : List Nat)] := hfr.pick [none] _ rfl
   exact ⟨none, 0, ([] : List Nat), rfl, hev, hmr, hfe, OwnR.nil _ _ _ _ _⟩
 refine x_fieldAddr (xv := Vp b4 0) (Vp b4 0) rfl rfl rfl (reads_field tfld30_0 _ _) ?_
 refine x_load (xv := Vp b4 0) (Vi p3_0) rfl rfl rfl (reads_box tcell3 hb4 nn 0 _ rfl) ?_
 refine x_u 1 [(24, .slice a_p1 (p1).length c_p1)] ?_
 refine x_len (vs := [.slice a_p1 (p1).length c_p1]) (Vi ((p1).length : Int)) rfl rfl rfl (reads_len tsl22 _ _ _ _ _) ?_
 refine x_u 3 [(26, .bool (decide (p3_0 ≥ ((p1).length : Int)))), (27, .bool (decide (p3_0 ≥ ((p1).length : Int)))), (28, .bool (decide (p3_0 ≥ ((p1).length : Int))))] ?_
 refine x_if 28 (decide (p3_0 ≥ ((p1).length : Int))) rfl h (fun h => ?_) (fun h => ?_)
 · refine x_u 23 [(29, undef), (30, undef), (31, undef), (32, .bool true), (33, .bool true), (34, undef), (35, undef), (36, undef), (37, undef), (38, undef), (39, .bool true), (40, .bool true), (41, undef), (42, undef), (43, undef), (44, .bool true), (45, .bool true), (46, undef), (47, undef), (48, undef), (49, undef), (50, undef), (51, .bool true)] ?_
   refine x_ek ?_
   refine c_norm [(0, .slice a_p0 (p0).length c_p0), (1, .slice a_p1 (p1).length c_p1), (2, .slice a_p2 (p2).length c_p2), (7, Vp b4 0), (51, .bool true)] ⟨rfl, rfl, rfl, rfl, rfl, trivial⟩ (fun J => ?_)
   refine c_true rfl ?_
   refine c_sp ?_
   refine x_u 2 [(8, .slice none 0 0), (9, Vi 2)] ?_
   refine x_ek ?_
   refine c_ret ?_
   refine k_then_ret ?_
   refine r_ret (r_vals [.slice none 0 0, Vi 2] ⟨rfl, rfl, trivial⟩ ?_)
   have hx := some_inj h
   subst hx
   have hmr : MS w8 [([] : List Nat), M] := hms.pick [none, some 1] _ rfl
   have hsu : ∀ x ∈ fl [([] : List Nat), M], x ∈ fl [[b4], M] := pick_sub [none, some 1] _ rfl
   have hfe : FR w.heap.size [([] : List Nat)] := hfr.pick [none] _ rfl
   exact ⟨none, 0, ([] : List Nat), rfl, hev, hmr, hfe, OwnR.nil _ _ _ _ _⟩
 refine x_fieldAddr (xv := Vp b4 0) (Vp b4 1) rfl rfl rfl (reads_field tfld30_1 _ _) ?_
 refine x_load (xv := Vp b4 1) (Vi p3_1) rfl rfl rfl (reads_box tcell3 hb4 nn 1 _ rfl) ?_
 refine x_u 3 [(31, .bool (decide (p3_1 < (-1)))), (32, .bool (decide (p3_1 < (-1)))), (33, .bool (decide (p3_1 < (-1))))] ?_
 refine x_if 33 (decide (p3_1 < (-1))) rfl h (fun h => ?_) (fun h => ?_)
 · refine x_u 18 [(34, undef), (35, undef), (36, undef), (37, undef), (38, undef), (39, .bool true), (40, .bool true), (41, undef), (42, undef), (43, undef), (44, .bool true), (45, .bool true), (46, undef), (47, undef), (48, undef), (49, undef), (50, undef), (51, .bool true)] ?_
   refine x_ek ?_
   refine c_norm [(0, .slice a_p0 (p0).length c_p0), (1, .slice a_p1 (p1).length c_p1), (2, .slice a_p2 (p2).length c_p2), (7, Vp b4 0), (51, .bool true)] ⟨rfl, rfl, rfl, rfl, rfl, trivial⟩ (fun J => ?_)
   refine c_true rfl ?_
   refine c_sp ?_
   refine x_u 2 [(8, .slice none 0 0), (9, Vi 2)] ?_
   refine x_ek ?_
   refine c_ret ?_
   refine k_then_ret ?_
   refine r_ret (r_vals [.slice none 0 0, Vi 2] ⟨rfl, rfl, trivial⟩ ?_)
   have hx := some_inj h
   subst hx
   have hmr : MS w8 [([] : List Nat), M] := hms.pick [none, some 1] _ rfl
   have hsu : ∀ x ∈ fl [([] : List Nat), M], x ∈ fl [[b4], M] := pick_sub [none, some 1] _ rfl
   have hfe : FR w.heap.size [([] : List Nat)] := hfr.pick [none] _ rfl
   exact ⟨none, 0, ([] : List Nat), rfl, hev, hmr, hfe, OwnR.nil _ _ _ _ _⟩
 refine x_fieldAddr (xv := Vp b4 0) (Vp b4 1) rfl rfl rfl (reads_field tfld30_1 _ _) ?_
 refine x_load (xv := Vp b4 1) (Vi p3_1) rfl rfl rfl (reads_box tcell3 hb4 nn 1 _ rfl) ?_
 refine x_u 1 [(36, .slice a_p2 (p2).length c_p2)] ?_
 refine x_len (vs := [.slice a_p2 (p2).length c_p2]) (Vi ((p2).length : Int)) rfl rfl rfl (reads_len tsl26 _ _ _ _ _) ?_
 refine x_u 3 [(38, .bool (decide (p3_1 ≥ ((p2).length : Int)))), (39, .bool (decide (p3_1 ≥ ((p2).length : Int)))), (40, .bool (decide (p3_1 ≥ ((p2).length : Int))))] ?_
 refine x_if 40 (decide (p3_1 ≥ ((p2).length : Int))) rfl h (fun h => ?_) (fun h => ?_)
 · refine x_u 11 [(41, undef), (42, undef), (43, undef), (44, .bool true), (45, .bool true), (46, undef), (47, undef), (48, undef), (49, undef), (50, undef), (51, .bool true)] ?_
   refine x_ek ?_
   refine c_norm [(0, .slice a_p0 (p0).length c_p0), (1, .slice a_p1 (p1).length c_p1), (2, .slice a_p2 (p2).length c_p2), (7, Vp b4 0), (51, .bool true)] ⟨rfl, rfl, rfl, rfl, rfl, trivial⟩ (fun J => ?_)
   refine c_true rfl ?_
   refine c_sp ?_
   refine x_u 2 [(8, .slice none 0 0), (9, Vi 2)] ?_
   refine x_ek ?_
   refine c_ret ?_
   refine k_then_ret ?_
   refine r_ret (r_vals [.slice none 0 0, Vi 2] ⟨rfl, rfl, trivial⟩ ?_)
   have hx := some_inj h
   subst hx
   have hmr : MS w8 [([] : List Nat), M] := hms.pick [none, some 1] _ rfl
   have hsu : ∀ x ∈ fl [([] : List Nat), M], x ∈ fl [[b4], M] := pick_sub [none, some 1] _ rfl
   have hfe : FR w.heap.size [([] : List Nat)] := hfr.pick [none] _ rfl
   exact ⟨none, 0, ([] : List Nat), rfl, hev, hmr, hfe, OwnR.nil _ _ _ _ _⟩
 refine x_fieldAddr (xv := Vp b4 0) (Vp b4 2) rfl rfl rfl (reads_field tfld30_2 _ _) ?_
 refine x_load (xv := Vp b4 2) (Vi p3_2) rfl rfl rfl (reads_box tcell3 hb4 nn 2 _ rfl) ?_
 refine x_u 3 [(43, .bool (decide (p3_2 < (-1)))), (44, .bool (decide (p3_2 < (-1)))), (45, .bool (decide (p3_2 < (-1))))] ?_
 refine x_if 45 (decide (p3_2 < (-1))) rfl h (fun h => ?_) (fun h => ?_)
 · refine x_u 6 [(46, undef), (47, undef), (48, undef), (49, undef), (50, undef), (51, .bool true)] ?_
   refine x_ek ?_
   refine c_norm [(0, .slice a_p0 (p0).length c_p0), (1, .slice a_p1 (p1).length c_p1), (2, .slice a_p2 (p2).length c_p2), (7, Vp b4 0), (51, .bool true)] ⟨rfl, rfl, rfl, rfl, rfl, trivial⟩ (fun J => ?_)
   refine c_true rfl ?_
   refine c_sp ?_
   refine x_u 2 [(8, .slice none 0 0), (9, Vi 2)] ?_
   refine x_ek ?_
   refine c_ret ?_
   refine k_then_ret ?_
   refine r_ret (r_vals [.slice none 0 0, Vi 2] ⟨rfl, rfl, trivial⟩ ?_)
   have hx := some_inj h
   subst hx
   have hmr : MS w8 [([] : List Nat), M] := hms.pick [none, some 1] _ rfl
   have hsu : ∀ x ∈ fl [([] : List Nat), M], x ∈ fl [[b4], M] := pick_sub [none, some 1] _ rfl
   have hfe : FR w.heap.size [([] : List Nat)] := hfr.pick [none] _ rfl
   exact ⟨none, 0, ([] : List Nat), rfl, hev, hmr, hfe, OwnR.nil _ _ _ _ _⟩
 refine x_fieldAddr (xv := Vp b4 0) (Vp b4 2) rfl rfl rfl (reads_field tfld30_2 _ _) ?_
 refine x_load (xv := Vp b4 2) (Vi p3_2) rfl rfl rfl (reads_box tcell3 hb4 nn 2 _ rfl) ?_
 refine x_u 1 [(48, .slice a_p2 (p2).length c_p2)] ?_
 refine x_len (vs := [.slice a_p2 (p2).length c_p2]) (Vi ((p2).length : Int)) rfl rfl rfl (reads_len tsl26 _ _ _ _ _) ?_
 refine x_u 2 [(50, .bool (decide (p3_2 ≥ ((p2).length : Int)))), (51, .bool (decide (p3_2 ≥ ((p2).length : Int))))] ?_
 refine x_ek ?_
 refine c_norm [(0, .slice a_p0 (p0).length c_p0), (1, .slice a_p1 (p1).length c_p1), (2, .slice a_p2 (p2).length c_p2), (7, Vp b4 0), (51, .bool (decide (p3_2 ≥ ((p2).length : Int))))] ⟨rfl, rfl, rfl, rfl, rfl, trivial⟩ (fun J => ?_)
 refine c_if (decide (p3_2 ≥ ((p2).length : Int))) rfl h (fun h => ?_) (fun h => ?_)
 · refine c_sp ?_
   refine x_u 2 [(8, .slice none 0 0), (9, Vi 2)] ?_
   refine x_ek ?_
   refine c_ret ?_
   refine k_then_ret ?_
   refine r_ret (r_vals [.slice none 0 0, Vi 2] ⟨rfl, rfl, trivial⟩ ?_)
   have hx := some_inj h
   subst hx
   have hmr : MS w8 [([] : List Nat), M] := hms.pick [none, some 1] _ rfl
   have hsu : ∀ x ∈ fl [([] : List Nat), M], x ∈ fl [[b4], M] := pick_sub [none, some 1] _ rfl
   have hfe : FR w.heap.size [([] : List Nat)] := hfr.pick [none] _ rfl
   exact ⟨none, 0, ([] : List Nat), rfl, hev, hmr, hfe, OwnR.nil _ _ _ _ _⟩
 refine c_skip ?_
 refine k_then ?_
 refine c_sp ?_
 refine x_u 1 [(53, .slice a_p2 (p2).length c_p2)] ?_
 refine x_fieldAddr (xv := Vp b4 0) (Vp b4 0) rfl rfl rfl (reads_field tfld30_0 _ _) ?_
 refine x_load (xv := Vp b4 0) (Vi p3_0) rfl rfl rfl (reads_box tcell3 hb4 nn 0 _ rfl) ?_
 obtain ⟨x10, hx, h⟩ := bind_some h
 have hpk : MS w8 ([] ++ [[b4], M]) := hms.pick [some 0, some 1] _ rfl
 have hsb0 : ∀ x ∈ fl ([] ++ [[b4], M]), x ∈ fl [[b4], M] := pick_sub [some 0, some 1] _ rfl
 have hsb : ∀ x ∈ fl ([] ++ [(fl [[b4], M])]), x ∈ fl [[b4], M] := fun x hx => hsb0 x (fl_unfold x hx)
 have hcall := r42_Where_w a_p2 c_p2 p2 p3_0 _ w8 (fl [[b4], M]) (MS.fold (P := []) hpk) (hs_p2.sub hsb) hx
 refine x_call 21 #[] #[] [.slice a_p2 (p2).length c_p2, Vi p3_0] _ rfl rfl rfl rfl hcall ?_
 rintro v w11 ⟨rfl, he11⟩
 clear hcall hx
 refine inl1 ?_
 have hst := Stp.ext (ls := [[b4], M]) he11
 replace hs_p0 := hs_p0.step hst
 replace hs_p1 := hs_p1.step hst
 replace hs_p2 := hs_p2.step hst
 replace hb4 := he11.box hb4 nn
 replace hms := hms.ev he11
 replace hev := hev.ext he11
 clear hpk hsb hsb0
 refine x_u 5 [(52, .tuple #[Vi x10.1, Vi x10.2]), (57, Vi x10.1), (58, Vi x10.2), (10, Vi x10.1), (11, Vi x10.2)] ?_
 refine x_ek ?_
 refine c_join (σ := Unit) (fun s => match s with | _ => [(0, .slice a_p0 (p0).length c_p0), (1, .slice a_p1 (p1).length c_p1), (2, .slice a_p2 (p2).length c_p2), (7, Vp b4 0), (10, Vi x10.1), (11, Vi x10.2)]) (fun s w' => match s with | _ => r42_Apply_J12 p0 p1 p2 p3_0 p3_2 p3_3 x10 = some r ∧ Ev [] w w' ∧ MS w' [[b4], M] ∧ FR w.heap.size [[b4]] ∧ SlR (eProd eStr (eInt .i64)) w' (fl [[b4], M]) a_p0 c_p0 p0 ∧ SlR (eInt .i64) w' (fl [[b4], M]) a_p1 c_p1 p1 ∧ SlR (eSl (eInt .i64)) w' (fl [[b4], M]) a_p2 c_p2 p2 ∧ w'.heap[b4]? = some (.cells #[Vi p3_0, Vi p3_1, Vi p3_2, .bool p3_3] 30 (0, 0))) ?_ ?_
 · refine c_sp ?_
   refine x_u 1 [(59, Vi x10.1)] ?_
   refine x_fieldAddr (xv := Vp b4 0) (Vp b4 1) rfl rfl rfl (reads_field tfld30_1 _ _) ?_
   refine x_load (xv := Vp b4 1) (Vi p3_1) rfl rfl rfl (reads_box tcell3 hb4 nn 1 _ rfl) ?_
   refine x_u 2 [(62, .bool (x10.1 != p3_1)), (63, .bool (x10.1 != p3_1))] ?_
   refine x_if 63 (x10.1 != p3_1) rfl h (fun h => ?_) (fun h => ?_)
   · refine x_u 8 [(64, undef), (65, undef), (66, undef), (67, undef), (68, undef), (69, undef), (70, undef), (71, .bool true)] ?_
     refine x_ek ?_
     refine c_norm [(0, .slice a_p0 (p0).length c_p0), (1, .slice a_p1 (p1).length c_p1), (2, .slice a_p2 (p2).length c_p2), (7, Vp b4 0), (10, Vi x10.1), (11, Vi x10.2), (71, .bool true)] ⟨rfl, rfl, rfl, rfl, rfl, rfl, rfl, trivial⟩ (fun J => ?_)
     refine c_true rfl ?_
     refine c_sp ?_
     refine x_u 2 [(8, .slice none 0 0), (9, Vi 17)] ?_
     refine x_ek ?_
     refine c_ret ?_
     refine k_then_ret ?_
     refine r_ret (r_vals [.slice none 0 0, Vi 17] ⟨rfl, rfl, trivial⟩ ?_)
     have hx := some_inj h
     subst hx
     have hmr : MS w11 [([] : List Nat), M] := hms.pick [none, some 1] _ rfl
     have hsu : ∀ x ∈ fl [([] : List Nat), M], x ∈ fl [[b4], M] := pick_sub [none, some 1] _ rfl
     have hfe : FR w.heap.size [([] : List Nat)] := hfr.pick [none] _ rfl
     exact ⟨none, 0, ([] : List Nat), rfl, hev, hmr, hfe, OwnR.nil _ _ _ _ _⟩
   refine x_u 3 [(64, Vi x10.1), (65, .bool (decide (x10.1 < 0))), (66, .bool (decide (x10.1 < 0)))] ?_
   refine x_if 66 (decide (x10.1 < 0)) rfl h (fun h => ?_) (fun h => ?_)
   · refine x_fieldAddr (xv := Vp b4 0) (Vp b4 2) rfl rfl rfl (reads_field tfld30_2 _ _) ?_
     refine x_load (xv := Vp b4 2) (Vi p3_2) rfl rfl rfl (reads_box tcell3 hb4 nn 2 _ rfl) ?_
     refine x_u 3 [(69, .bool (decide (p3_2 < 0))), (70, .bool (decide (p3_2 < 0))), (71, .bool (decide (p3_2 < 0)))] ?_
     refine x_ek ?_
     refine c_norm [(0, .slice a_p0 (p0).length c_p0), (1, .slice a_p1 (p1).length c_p1), (2, .slice a_p2 (p2).length c_p2), (7, Vp b4 0), (10, Vi x10.1), (11, Vi x10.2), (71, .bool (decide (p3_2 < 0)))] ⟨rfl, rfl, rfl, rfl, rfl, rfl, rfl, trivial⟩ (fun J => ?_)
     refine c_if (decide (p3_2 < 0)) rfl h (fun h => ?_) (fun h => ?_)
     · refine c_sp ?_
       refine x_u 2 [(8, .slice none 0 0), (9, Vi 17)] ?_
       refine x_ek ?_
       refine c_ret ?_
       refine k_then_ret ?_
       refine r_ret (r_vals [.slice none 0 0, Vi 17] ⟨rfl, rfl, trivial⟩ ?_)
       have hx := some_inj h
       subst hx
       have hmr : MS w11 [([] : List Nat), M] := hms.pick [none, some 1] _ rfl
       have hsu : ∀ x ∈ fl [([] : List Nat), M], x ∈ fl [[b4], M] := pick_sub [none, some 1] _ rfl
       have hfe : FR w.heap.size [([] : List Nat)] := hfr.pick [none] _ rfl
       exact ⟨none, 0, ([] : List Nat), rfl, hev, hmr, hfe, OwnR.nil _ _ _ _ _⟩
     refine c_skip ?_
     exact k_then ⟨(), ⟨rfl, rfl, rfl, rfl, rfl, rfl, trivial⟩, h, hev, hms, hfr, hs_p0, hs_p1, hs_p2, hb4⟩
   refine x_u 5 [(67, undef), (68, undef), (69, undef), (70, .bool false), (71, .bool false)] ?_
   refine x_ek ?_
   refine c_norm [(0, .slice a_p0 (p0).length c_p0), (1, .slice a_p1 (p1).length c_p1), (2, .slice a_p2 (p2).length c_p2), (7, Vp b4 0), (10, Vi x10.1), (11, Vi x10.2), (71, .bool false)] ⟨rfl, rfl, rfl, rfl, rfl, rfl, rfl, trivial⟩ (fun J => ?_)
   refine c_false rfl ?_
   refine c_skip ?_
   exact k_then ⟨(), ⟨rfl, rfl, rfl, rfl, rfl, rfl, trivial⟩, h, hev, hms, hfr, hs_p0, hs_p1, hs_p2, hb4⟩
 rintro _ J wj12 ⟨h, hev, hms, hfr, hs_p0, hs_p1, hs_p2, hb4⟩
 refine c_sp ?_
 refine x_u 1 [(72, .slice a_p2 (p2).length c_p2)] ?_
 obtain ⟨x13, hx, h⟩ := bind_some h
 have hpk : MS wj12 ([] ++ [[b4], M]) := hms.pick [some 0, some 1] _ rfl
 have hsb0 : ∀ x ∈ fl ([] ++ [[b4], M]), x ∈ fl [[b4], M] := pick_sub [some 0, some 1] _ rfl
 have hsb : ∀ x ∈ fl ([] ++ [(fl [[b4], M])]), x ∈ fl [[b4], M] := fun x hx => hsb0 x (fl_unfold x hx)
 have hcall := r42_Copy_w a_p2 c_p2 p2 _ wj12 (fl [[b4], M]) (MS.fold (P := []) hpk) (hs_p2.sub hsb) hx
 refine x_call 30 #[] #[] [.slice a_p2 (p2).length c_p2] _ rfl rfl rfl rfl hcall ?_
 rintro v w14 ⟨a0_14, c0_14, B2_14, rfl, he14, hmn14, hfn14, hf14_1⟩
 clear hcall hx
 refine inl1 ?_
 have hpk2 : MS wj12 ([] ++ [[b4], M]) := hms.pick [some 0, some 1] _ rfl
 have hsb2 : ∀ x ∈ fl ([] ++ [[b4], M]), x ∈ fl [[b4], M] := pick_sub [some 0, some 1] _ rfl
 have hst0 := Stp.call (LS := [[b4], M]) (res := [B2_14]) (par := []) (R := [[b4], M]) he14 (fun b hb => hsb2 b (fl_left' (P := []) b hb)) hfn14 (NP.init _ _) (fun x hx => hsb2 x (fl_right' (P := []) x hx))
 have hsn : ∀ x ∈ fl [B2_14, [b4], M], x ∈ fl ([B2_14] ++ ([] ++ [[b4], M])) := pick_sub [some 0, some 1, some 2] _ rfl
 have hst := hst0.res hsn
 replace hs_p0 := hs_p0.step hst
 replace hs_p1 := hs_p1.step hst
 replace hs_p2 := hs_p2.step hst
 replace hb4 := he14.box hb4 ((MS.outs (P := []) hpk2 0 rfl) _ mem1)
 replace hms : MS w14 [B2_14, [b4], M] := (MS.call (P := []) (R := [[b4], M]) (res := [B2_14]) (par := []) hpk2 he14 hmn14 hfn14 (NP.init _ _)).pick [some 0, some 1, some 2] _ rfl
 have hfr2 : FR w.heap.size [B2_14, [b4]] := (FR.cons (fun b hb => Nat.le_trans hev.size (hfn14.at 0 rfl b hb)) (FR.cons (hfr.at 0 rfl) (FR.nil _)))
 replace hev := hev.ext he14
 replace hfr := hfr2
 clear hfr2
 clear hpk hsb hsb0 hpk2 hsb2 hst0 hsn hst
 refine x_u 1 [(12, .slice a0_14 (x13).length c0_14)] ?_
 refine x_ek ?_
 refine c_norm [(0, .slice a_p0 (p0).length c_p0), (1, .slice a_p1 (p1).length c_p1), (7, Vp b4 0), (10, Vi x10.1), (11, Vi x10.2), (12, .slice a0_14 (x13).length c0_14)] ⟨rfl, rfl, rfl, rfl, rfl, rfl, trivial⟩ (fun J => ?_)
 refine c_join (σ := (List (List Int)) × List Nat) (fun s => match s with | (d15_j16, B15_j16) => [(0, .slice a_p0 (p0).length c_p0), (1, .slice a_p1 (p1).length c_p1), (7, Vp b4 0), (12, .slice a0_14 (d15_j16).length c0_14)]) (fun s w' => match s with | (d15_j16, B15_j16) => r42_Apply_J16 p0 p1 p3_0 p3_2 p3_3 d15_j16 = some r ∧ Ev [] w w' ∧ MS w' [[b4], B15_j16, M] ∧ FR w.heap.size [[b4], B15_j16] ∧ SlR (eProd eStr (eInt .i64)) w' (fl [[b4], B15_j16, M]) a_p0 c_p0 p0 ∧ SlR (eInt .i64) w' (fl [[b4], B15_j16, M]) a_p1 c_p1 p1 ∧ w'.heap[b4]? = some (.cells #[Vi p3_0, Vi p3_1, Vi p3_2, .bool p3_3] 30 (0, 0)) ∧ OwnR (eInt .i64) 3 22 w' B15_j16 a0_14 c0_14 d15_j16 none) ?_ ?_
 · refine c_sp ?_
   refine x_u 2 [(74, Vi x10.1), (75, .bool (decide (x10.1 ≥ 0)))] ?_
   refine x_ek ?_
   refine c_if (decide (x10.1 ≥ 0)) rfl h (fun h => ?_) (fun h => ?_)
   · refine c_drawn (innr a0_14 B2_14) [(0, false), (1, false), (2, true), (3, true), (4, true), (5, true), (6, true), (7, true), (8, true), (9, true), (10, true), (11, true), (12, true), (13, true), (14, true), (15, false), (16, true), (17, true)] _ (by kernel_rfl) rfl ?_
     have hst := Stp.ext (ls := [B2_14, [b4], M]) (Ev.drew w14)
     replace hs_p0 := hs_p0.step hst
     replace hs_p1 := hs_p1.step hst
     replace hb4 := (Ev.drew w14).box hb4 nn
     replace hf14_1 := hf14_1.step (plain_int _) (Ev.drew w14) nn2
     replace hms := hms.ev (Ev.drew w14)
     replace hev := hev.ext (Ev.drew w14)
     refine x_u 4 [(76, .slice a0_14 (x13).length c0_14), (77, Vi x10.1), (78, .slice a0_14 (x13).length c0_14), (79, Vi x10.1)] ?_
     obtain ⟨x17, hx17, h⟩ := bind_some h
     obtain ⟨g17, ai17, ci17, hr17, hv17⟩ := OwnR.view (P := Try.prog) (Mo := []) tsl26 hf14_1 hx17
     refine x_indexAddr (xv := .slice a0_14 (x13).length c0_14) (yv := Vi x10.1) (.pointer (some ⟨g17, (Int.toNat x10.1), none⟩)) rfl rfl rfl rfl hr17 ?_
     refine x_load (xv := .pointer (some ⟨g17, (Int.toNat x10.1), none⟩)) (.slice ai17 (x17).length ci17) rfl rfl rfl (RView.load tcell22 hv17) ?_
     refine x_u 1 [(82, Vi x10.2)] ?_
     have hg := guard_l h
     replace h := guard_r h
     have hr19 := reads_trunc (P := Try.prog) (Mo := []) (w := (w14).drew) tsl22 ai17 ci17 x17 x10.2 hg.1 hg.2 hv17.row.le
     refine x_slice (xv := .slice ai17 (x17).length ci17) (lv := none) (hv := some (Vi x10.2)) (mv := none) (.slice ai17 ((x17.take (Int.toNat x10.2))).length ci17) rfl rfl rfl rfl rfl rfl hr19 ?_
     refine x_u 2 [(84, .slice a0_14 (x13).length c0_14), (85, Vi x10.1)] ?_
     obtain ⟨x21, hx21, h⟩ := bind_some h
     obtain ⟨g21, ai21, ci21, hr21, hv21⟩ := OwnR.view (P := Try.prog) (Mo := []) tsl26 hf14_1 hx21
     refine x_indexAddr (xv := .slice a0_14 (x13).length c0_14) (yv := Vi x10.1) (.pointer (some ⟨g21, (Int.toNat x10.1), none⟩)) rfl rfl rfl rfl hr21 ?_
     refine x_load (xv := .pointer (some ⟨g21, (Int.toNat x10.1), none⟩)) (.slice ai21 (x21).length ci21) rfl rfl rfl (RView.load tcell22 hv21) ?_
     refine x_u 2 [(88, Vi x10.2), (89, Vi (IntKind.i64.wrap (x10.2 + 1)))] ?_
     have hg := guard_l h
     replace h := guard_r h
     obtain ⟨a23, c23, hr23, hs23⟩ := SlR.sliced (P := Try.prog) (Mo := []) tsl22 (OwnS.ro (M' := []) (OwnS.plain (M' := []) (plain_int _) hv21.row) (fun _ h => h) (fun _ _ h => by cases h)) (some (IntKind.i64.wrap (x10.2 + 1))) none hg
     replace hs23 : SlR (eInt .i64) (w14).drew [] a23 c23 ((x21.drop (Int.toNat (IntKind.i64.wrap (x10.2 + 1)))).take (Int.toNat (x21.length : Int) - Int.toNat (IntKind.i64.wrap (x10.2 + 1)))) := hs23
     refine x_slice (xv := .slice ai21 (x21).length ci21) (lv := some (Vi (IntKind.i64.wrap (x10.2 + 1)))) (hv := none) (mv := none) (.slice a23 (((x21.drop (Int.toNat (IntKind.i64.wrap (x10.2 + 1)))).take (Int.toNat (x21.length : Int) - Int.toNat (IntKind.i64.wrap (x10.2 + 1))))).length c23) rfl rfl rfl rfl rfl rfl hr23 ?_
     obtain ⟨⟨hqa25, hqb25, hqc25⟩, hqd25⟩ := RView.uniq hv17 hv21
     subst hqa25 hqb25 hqc25 hqd25
     have hin26 := RView.inner hv17 hf14_1
     obtain ⟨B26, hR26, ho26, hs1, hs2, hs3⟩ := OwnR.opn hf14_1 hv17
     replace hf14_1 := hR26
     have hms2 := hms.split 0 rfl hs2 hs1 hs3
     have hsu : ∀ x ∈ fl [blk ai17, B26, [b4], M], x ∈ fl [B2_14, [b4], M] := split_sub (ls := [B2_14, [b4], M]) 0 rfl hs2 hs1
     replace hms : MS (w14).drew [blk ai17, B26, [b4], M] := hms2
     replace hfr : FR w.heap.size [blk ai17, B26, [b4]] := (hfr.upd 0 rfl hev.size (fun b hb => .inl (hs1 b hb))).push (fun b hb => hfr.at 0 rfl b (hs2 b hb))
     replace hs_p0 := hs_p0.sub hsu
     replace hs_p1 := hs_p1.sub hsu
     replace ho26 := OwnS.plain (M' := fl [blk ai17, B26, [b4], M]) (plain_int _) ho26
     have hg26 := hv17.eq
     have hx26 := hv17.at_
     clear hv17 hms2 hs1 hs2 hs3 hsu
     have hg26_22 := hv21.eq
     have hx26_22 := hv21.at_
     clear hv21
     replace ho26 := ho26.trunc (Int.toNat x10.2)
     have hg := guard_l h
     replace h := guard_r h
     obtain ⟨a28, c28, w28, hr28, he28, hn28, hm28, hw28⟩ := own_appendG (M := (blk ai17)) (M2 := []) tel22 22 (OwnS.plain (plain_int _) ho26) (fun _ h => h) hs23 (fun _ _ h => (plain_int _) _ _ _ _ _ _ h) hg
     refine x_builtin (vs := [.slice ai17 ((x17.take (Int.toNat x10.2))).length ci17, .slice a23 (((x17.drop (Int.toNat (IntKind.i64.wrap (x10.2 + 1)))).take (Int.toNat (x17.length : Int) - Int.toNat (IntKind.i64.wrap (x10.2 + 1))))).length c23]) _ w28 rfl rfl rfl rfl (run_value _ _ _ _ hr28) ?_
     refine ⟨.inr (he28.sub hin26), ?_⟩
     clear hs23
     have hst : Stp (fl [blk ai17, B26, [b4], M]) (w14).drew (fl [blk a28, B26, [b4], M]) w28 := Stp.upd 0 he28 rfl (fun b hb => (hn28 b hb).1)
     replace hs_p0 := hs_p0.step hst
     replace hs_p1 := hs_p1.step hst
     replace hb4 := he28.box hb4 (hms.apart 2 0 rfl rfl rfl _ mem1)
     replace hf14_1 := hf14_1.step (plain_int _) he28 (hms.apart 1 0 rfl rfl rfl)
     replace hms : MS w28 [blk a28, B26, [b4], M] := hms.upd 0 he28 rfl hn28
     have hfr2 : FR w.heap.size [blk a28, B26, [b4]] := hfr.upd 0 rfl hev.size (fun b hb => (hn28 b hb).1)
     replace hev := hev.then he28 (fun b hb => .inr (hfr.at 0 rfl b hb))
     replace hfr := hfr2
     clear hfr2
     replace ho26 := OwnS.plain (M' := fl [blk a28, B26, [b4], M]) (plain_int _) (hw28 [] (fun _ h => by cases h))
     clear hw28
     obtain ⟨x29, hx29, h⟩ := bind_some h
     obtain ⟨g29, hg29, hr29, hy29⟩ := OwnR.addr (P := Try.prog) (Mo := []) tsl26 hf14_1 hx29
     refine x_indexAddr (xv := .slice a0_14 (x13).length c0_14) (yv := Vi x10.1) (.pointer (some ⟨g29, (Int.toNat x10.1), none⟩)) rfl rfl rfl rfl hr29 ?_
     obtain ⟨w31, B31, hr31, he31, hn31, hR31⟩ := OwnR.cls (P := Try.prog) (plain_int _) tcell22 hf14_1 hg29 hy29 ho26 (hms.apart 0 1 rfl rfl rfl) (hms.ltat 1 rfl)
     refine x_store w31 (xv := .pointer (some ⟨g29, (Int.toNat x10.1), none⟩)) (yv := .slice a28 (((x17.take (Int.toNat x10.2)) ++ ((x17.drop (Int.toNat (IntKind.i64.wrap (x10.2 + 1)))).take (Int.toNat (x17.length : Int) - Int.toNat (IntKind.i64.wrap (x10.2 + 1)))))).length c28) rfl rfl rfl rfl hr31 ?_
     refine inl1 ?_
     have hms2 := hms.merge (C := blk a28 ++ B26) 0 1 rfl rfl (fun x hx => List.mem_append.1 hx)
     replace hfr : FR w.heap.size [blk a28 ++ B26, [b4]] := (FR.cons (fun b hb => (List.mem_append.1 hb).elim (hfr.at 0 rfl b) (hfr.at 1 rfl b)) (FR.cons (hfr.at 2 rfl) (FR.nil _)))
     have hsu : ∀ x ∈ fl [blk a28 ++ B26, [b4], M], x ∈ fl [blk a28, B26, [b4], M] := merge_sub (ls := [blk a28, B26, [b4], M]) (C := blk a28 ++ B26) 0 1 rfl rfl (fun x hx => List.mem_append.1 hx)
     replace hms : MS w28 [blk a28 ++ B26, [b4], M] := hms2
     replace hs_p0 := hs_p0.sub hsu
     replace hs_p1 := hs_p1.sub hsu
     clear hms2 hsu
     have hst : Stp (fl [blk a28 ++ B26, [b4], M]) w28 (fl [B31, [b4], M]) w31 := Stp.upd 0 he31 rfl (fun b hb => (hn31 b hb).1)
     replace hs_p0 := hs_p0.step hst
     replace hs_p1 := hs_p1.step hst
     replace hb4 := he31.box hb4 (hms.apart 1 0 rfl rfl rfl _ mem1)
     replace hms : MS w31 [B31, [b4], M] := hms.upd 0 he31 rfl hn31
     have hfr2 : FR w.heap.size [B31, [b4]] := hfr.upd 0 rfl hev.size (fun b hb => (hn31 b hb).1)
     replace hev := hev.then he31 (fun b hb => .inr (hfr.at 0 rfl b hb))
     replace hfr := hfr2
     clear hfr2
     replace hf14_1 := hR31
     have hsl : (Value.slice a0_14 (x13).length c0_14) = (Value.slice a0_14 ((x13.set (Int.toNat x10.1) ((x17.take (Int.toNat x10.2)) ++ ((x17.drop (Int.toNat (IntKind.i64.wrap (x10.2 + 1)))).take (Int.toNat (x17.length : Int) - Int.toNat (IntKind.i64.wrap (x10.2 + 1))))))).length c0_14) := by first | (rw [List.length_set]; done) | simp only [List.length_set]
     try rw [hsl]
     clear hsl
     refine x_end rfl ?_
     have hpk : MS w31 [[b4], B31, M] := hms.pick [some 1, some 0, some 2] _ rfl
     have hsu : ∀ x ∈ fl [[b4], B31, M], x ∈ fl [B31, [b4], M] := pick_sub [some 1, some 0, some 2] _ rfl
     replace hs_p0 := hs_p0.sub hsu
     replace hs_p1 := hs_p1.sub hsu
     replace hms := hpk
     replace hfr : FR w.heap.size [[b4], B31] := hfr.pick [some 1, some 0] _ rfl
     clear hpk hsu
     exact k_then ⟨((x13.set (Int.toNat x10.1) ((x17.take (Int.toNat x10.2)) ++ ((x17.drop (Int.toNat (IntKind.i64.wrap (x10.2 + 1)))).take (Int.toNat (x17.length : Int) - Int.toNat (IntKind.i64.wrap (x10.2 + 1)))))), B31), ⟨rfl, rfl, rfl, rfl, trivial⟩, h, hev, hms, hfr, hs_p0, hs_p1, hb4, hf14_1⟩
   refine c_skip ?_
   have hpk : MS w14 [[b4], B2_14, M] := hms.pick [some 1, some 0, some 2] _ rfl
   have hsu : ∀ x ∈ fl [[b4], B2_14, M], x ∈ fl [B2_14, [b4], M] := pick_sub [some 1, some 0, some 2] _ rfl
   replace hs_p0 := hs_p0.sub hsu
   replace hs_p1 := hs_p1.sub hsu
   replace hms := hpk
   replace hfr : FR w.heap.size [[b4], B2_14] := hfr.pick [some 1, some 0] _ rfl
   clear hpk hsu
   exact k_then ⟨(x13, B2_14), ⟨rfl, rfl, rfl, rfl, trivial⟩, h, hev, hms, hfr, hs_p0, hs_p1, hb4, hf14_1⟩
 rintro ⟨d15_j16, B15_j16⟩ J wj16 ⟨h, hev, hms, hfr, hs_p0, hs_p1, hb4, hf14_1⟩
 refine c_seq ?_
 refine c_sp ?_
 refine x_fieldAddr (xv := Vp b4 0) (Vp b4 2) rfl rfl rfl (reads_field tfld30_2 _ _) ?_
 refine x_load (xv := Vp b4 2) (Vi p3_2) rfl rfl rfl (reads_box tcell3 hb4 nn 2 _ rfl) ?_
 refine x_u 1 [(95, .bool (decide (p3_2 < 0)))] ?_
 refine x_ek ?_
 refine c_norm [(0, .slice a_p0 (p0).length c_p0), (1, .slice a_p1 (p1).length c_p1), (7, Vp b4 0), (12, .slice a0_14 (d15_j16).length c0_14), (95, .bool (decide (p3_2 < 0)))] ⟨rfl, rfl, rfl, rfl, rfl, trivial⟩ (fun J => ?_)
 refine c_if (decide (p3_2 < 0)) rfl h (fun h => ?_) (fun h => ?_)
 · refine c_sp ?_
   refine x_u 3 [(96, .slice a0_14 (d15_j16).length c0_14), (8, .slice a0_14 (d15_j16).length c0_14), (9, Vi 0)] ?_
   refine x_ek ?_
   refine c_ret ?_
   refine k_then_ret ?_
   refine r_ret (r_vals [.slice a0_14 (d15_j16).length c0_14, Vi 0] ⟨rfl, rfl, trivial⟩ ?_)
   have hx := some_inj h
   subst hx
   have hmr : MS wj16 [B15_j16, M] := hms.pick [some 1, some 2] _ rfl
   have hsu : ∀ x ∈ fl [B15_j16, M], x ∈ fl [[b4], B15_j16, M] := pick_sub [some 1, some 2] _ rfl
   have hfe : FR w.heap.size [B15_j16] := hfr.pick [some 1] _ rfl
   exact ⟨a0_14, c0_14, B15_j16, rfl, hev, hmr, hfe, hf14_1⟩
 refine c_skip ?_
 refine k_then ?_
 refine c_join (σ := (List (List Int)) × List Nat) (fun s => match s with | (d15_j33, B15_j33) => [(0, .slice a_p0 (p0).length c_p0), (1, .slice a_p1 (p1).length c_p1), (7, Vp b4 0), (12, .slice a0_14 (d15_j33).length c0_14)]) (fun s w' => match s with | (d15_j33, B15_j33) => r42_Apply_J33 p0 p1 p3_2 d15_j33 = some r ∧ Ev [] w w' ∧ MS w' [[b4], B15_j33, M] ∧ FR w.heap.size [[b4], B15_j33] ∧ SlR (eProd eStr (eInt .i64)) w' (fl [[b4], B15_j33, M]) a_p0 c_p0 p0 ∧ SlR (eInt .i64) w' (fl [[b4], B15_j33, M]) a_p1 c_p1 p1 ∧ w'.heap[b4]? = some (.cells #[Vi p3_0, Vi p3_1, Vi p3_2, .bool p3_3] 30 (0, 0)) ∧ OwnR (eInt .i64) 3 22 w' B15_j33 a0_14 c0_14 d15_j33 none) ?_ ?_
 · refine c_sp ?_
   refine x_fieldAddr (xv := Vp b4 0) (Vp b4 3) rfl rfl rfl (reads_field tfld30_3 _ _) ?_
   refine x_load (xv := Vp b4 3) (.bool p3_3) rfl rfl rfl (reads_box tcell4 hb4 nn 3 _ rfl) ?_
   refine x_ek ?_
   refine c_if p3_3 rfl h (fun h => ?_) (fun h => ?_)
   · refine c_drawn (newmo (wj16).drew) [(0, false), (1, false), (2, false), (3, true), (4, true), (6, false), (7, false), (8, false), (9, false), (10, false), (5, false), (11, false), (12, true), (13, true)] _ (by kernel_rfl) rfl ?_
     have hst := Stp.ext (ls := [[b4], B15_j16, M]) (Ev.drew wj16)
     replace hs_p0 := hs_p0.step hst
     replace hs_p1 := hs_p1.step hst
     replace hb4 := (Ev.drew wj16).box hb4 nn
     replace hf14_1 := hf14_1.step (plain_int _) (Ev.drew wj16) nn2
     replace hms := hms.ev (Ev.drew wj16)
     replace hev := hev.ext (Ev.drew wj16)
     have hnz : ((wj16).drew).heap.size = ((wj16).drew).heap.size + 0 := rfl
     refine x_u 1 [(99, .slice a0_14 (d15_j16).length c0_14)] ?_
     refine x_fieldAddr (xv := Vp b4 0) (Vp b4 2) rfl rfl rfl (reads_field tfld30_2 _ _) ?_
     refine x_load (xv := Vp b4 2) (Vi p3_2) rfl rfl rfl (reads_box tcell3 hb4 ((newmo_out (hms.ltat 0 rfl)) _ mem1) 2 _ rfl) ?_
     refine x_fieldAddr (xv := Vp b4 0) (Vp b4 0) rfl rfl rfl (reads_field tfld30_0 _ _) ?_
     refine x_load (xv := Vp b4 0) (Vi p3_0) rfl rfl rfl (reads_box tcell3 hb4 nn 0 _ rfl) ?_
     refine x_u 1 [(105, .slice a0_14 (d15_j16).length c0_14)] ?_
     refine x_fieldAddr (xv := Vp b4 0) (Vp b4 2) rfl rfl rfl (reads_field tfld30_2 _ _) ?_
     refine x_load (xv := Vp b4 2) (Vi p3_2) rfl rfl rfl (reads_box tcell3 hb4 ((newmo_out (hms.ltat 0 rfl)) _ mem1) 2 _ rfl) ?_
     obtain ⟨x34, hx34, h⟩ := bind_some h
     obtain ⟨g34, ai34, ci34, hr34, hv34⟩ := OwnR.view (P := Try.prog) (Mo := (newmo (wj16).drew)) tsl26 hf14_1 hx34
     refine x_indexAddr (xv := .slice a0_14 (d15_j16).length c0_14) (yv := Vi p3_2) (.pointer (some ⟨g34, (Int.toNat p3_2), none⟩)) rfl rfl rfl rfl hr34 ?_
     refine x_load (xv := .pointer (some ⟨g34, (Int.toNat p3_2), none⟩)) (.slice ai34 (x34).length ci34) rfl rfl rfl (RView.loadM tcell22 hv34 (newmo_out (hms.ltat 1 rfl))) ?_
     refine x_buildSlice (vs := [(0, Vi p3_0)]) #[Vi p3_0] 3 rfl rfl rfl (by kernel_rfl) (fun b36 w36 hq36 hb36 he36 hz36 => ?_)
     refine ⟨.inr (he36.nil), ?_⟩
     have hnb36 : b36 = ((wj16).drew).heap.size + 0 := by omega
     replace hnz : w36.heap.size = ((wj16).drew).heap.size + 1 := by omega
     obtain ⟨a36, ea36⟩ : ∃ a, a = some (⟨b36, 0, none⟩ : Addr) := ⟨_, rfl⟩
     have hw36 : ∀ M, OwnS (eInt .i64) 3 w36 M a36 1 ([p3_0] : List Int) := fun M => ea36 ▸ own_of_box hb36 (by decide) rfl rfl (cells_at (cs := [Vi p3_0]) (CellsOf.cons (c := [Vi p3_0]) rfl CellsOf.nil))
     have hn36 : ∀ b ∈ blk a36, (wj16).drew.heap.size ≤ b ∧ b < w36.heap.size := by subst ea36; intro b hb; simp only [blk, List.mem_singleton] at hb; subst hb; exact ⟨Nat.le_of_eq hq36.symm, lt_of_heap hb36⟩
     clear hb36
     have hst := Stp.push (ls := [[b4], B15_j16, M]) (l := blk a36) he36 (fun _ h => by cases h) (fun b hb => (hn36 b hb).1)
     replace hs_p0 := hs_p0.step hst
     replace hs_p1 := hs_p1.step hst
     replace hb4 := he36.box hb4 nn
     replace hf14_1 := hf14_1.step (plain_int _) he36 nn2
     replace hv34 := hv34.step (plain_int _) he36 nn2
     replace hms := hms.push he36 hn36
     replace hfr := hfr.push (fun b hb => Nat.le_trans hev.size (hn36 b hb).1)
     replace hev := hev.ext he36
     have hnp36 : ∀ x ∈ blk a36, x ∈ (newmo (wj16).drew) := by subst ea36; intro x hx; simp only [blk, List.mem_singleton] at hx; subst hx; exact newmo_mem hnb36 rfl
     have ho36 := hw36 (fl [blk a36, [b4], B15_j16, M])
     clear hw36
     rw [← ea36]
     have hg := guard_l h
     replace h := guard_r h
     obtain ⟨a38, c38, w38, hr38, he38, hn38, hm38, hw38⟩ := own_appendN (M := (blk a36)) tel22 22 (OwnS.plain (plain_int _) ho36) (fun _ h => h) (RView.ro (plain_int _) hv34 (hms.apart 2 0 rfl rfl rfl)) hg
     refine x_builtin (vs := [.slice a36 (([p3_0] : List Int)).length 1, .slice ai34 (x34).length ci34]) _ w38 rfl rfl rfl rfl (run_value _ _ _ _ hr38) ?_
     refine ⟨.inr (he38.sub hnp36), ?_⟩
     have hnp38 := newmo_app hm38 hnp36 hnz rfl
     have hst : Stp (fl [blk a36, [b4], B15_j16, M]) w36 (fl [blk a38, [b4], B15_j16, M]) w38 := Stp.upd 0 he38 rfl (fun b hb => (hn38 b hb).1)
     replace hs_p0 := hs_p0.step hst
     replace hs_p1 := hs_p1.step hst
     replace hb4 := he38.box hb4 (hms.apart 1 0 rfl rfl rfl _ mem1)
     replace hf14_1 := hf14_1.step (plain_int _) he38 (hms.apart 2 0 rfl rfl rfl)
     replace hv34 := hv34.step (plain_int _) he38 (hms.apart 2 0 rfl rfl rfl)
     replace hms : MS w38 [blk a38, [b4], B15_j16, M] := hms.upd 0 he38 rfl hn38
     have hfr2 : FR w.heap.size [blk a38, [b4], B15_j16] := hfr.upd 0 rfl hev.size (fun b hb => (hn38 b hb).1)
     replace hev := hev.then he38 (fun b hb => .inr (hfr.at 0 rfl b hb))
     replace hfr := hfr2
     clear hfr2
     replace ho36 := OwnS.plain (M' := fl [blk a38, [b4], B15_j16, M]) (plain_int _) (hw38 [] (fun _ h => by cases h))
     clear hw38
     obtain ⟨x39, hx39, h⟩ := bind_some h
     obtain ⟨g39, ai39, ci39, hr39, hv39⟩ := OwnR.view (P := Try.prog) (Mo := []) tsl26 hf14_1 hx39
     refine x_indexAddr (xv := .slice a0_14 (d15_j16).length c0_14) (yv := Vi p3_2) (.pointer (some ⟨g39, (Int.toNat p3_2), none⟩)) rfl rfl rfl rfl hr39 ?_
     obtain ⟨B41, hR41, ho41, hs1, hs2, hs3⟩ := OwnR.opn hf14_1 hv34
     replace hf14_1 := hR41
     have hms2 := hms.split 2 rfl hs2 hs1 hs3
     have hsu : ∀ x ∈ fl [blk ai34, blk a38, [b4], B41, M], x ∈ fl [blk a38, [b4], B15_j16, M] := split_sub (ls := [blk a38, [b4], B15_j16, M]) 2 rfl hs2 hs1
     replace hms : MS w38 [blk ai34, blk a38, [b4], B41, M] := hms2
     replace hfr : FR w.heap.size [blk ai34, blk a38, [b4], B41] := (hfr.upd 2 rfl hev.size (fun b hb => .inl (hs1 b hb))).push (fun b hb => hfr.at 2 rfl b (hs2 b hb))
     replace hs_p0 := hs_p0.sub hsu
     replace hs_p1 := hs_p1.sub hsu
     replace ho36 := ho36.sub hsu
     replace ho41 := OwnS.plain (M' := fl [blk ai34, blk a38, [b4], B41, M]) (plain_int _) ho41
     have hg41 := hv34.eq
     have hx41 := hv34.at_
     clear hv34 hms2 hs1 hs2 hs3 hsu
     have hg41_40 := hv39.eq
     have hx41_40 := hv39.at_
     clear hv39
     obtain ⟨w43, B43, hr43, he43, hn43, hR43⟩ := OwnR.cls (P := Try.prog) (plain_int _) tcell22 hf14_1 hg41_40 hx41_40 ho36 (hms.apart 1 3 rfl rfl rfl) (hms.ltat 3 rfl)
     refine x_store w43 (xv := .pointer (some ⟨g39, (Int.toNat p3_2), none⟩)) (yv := .slice a38 ((([p3_0] : List Int) ++ x34)).length c38) rfl rfl rfl rfl hr43 ?_
     refine inl1 ?_
     have hms2 := hms.merge (C := blk a38 ++ B41) 1 3 rfl rfl (fun x hx => List.mem_append.1 hx)
     replace hfr : FR w.heap.size [blk ai34, [b4], blk a38 ++ B41] := (FR.cons (hfr.at 0 rfl) (FR.cons (hfr.at 2 rfl) (FR.cons (fun b hb => (List.mem_append.1 hb).elim (hfr.at 1 rfl b) (hfr.at 3 rfl b)) (FR.nil _))))
     have hsu : ∀ x ∈ fl [blk ai34, [b4], blk a38 ++ B41, M], x ∈ fl [blk ai34, blk a38, [b4], B41, M] := merge_sub (ls := [blk ai34, blk a38, [b4], B41, M]) (C := blk a38 ++ B41) 1 3 rfl rfl (fun x hx => List.mem_append.1 hx)
     replace hms : MS w38 [blk ai34, [b4], blk a38 ++ B41, M] := hms2
     replace hs_p0 := hs_p0.sub hsu
     replace hs_p1 := hs_p1.sub hsu
     replace ho41 := ho41.sub hsu
     clear hms2 hsu
     have hst : Stp (fl [blk ai34, [b4], blk a38 ++ B41, M]) w38 (fl [blk ai34, [b4], B43, M]) w43 := Stp.upd 2 he43 rfl (fun b hb => (hn43 b hb).1)
     replace hs_p0 := hs_p0.step hst
     replace hs_p1 := hs_p1.step hst
     replace hb4 := he43.box hb4 (hms.apart 1 2 rfl rfl rfl _ mem1)
     replace ho41 := ho41.step hst he43 (hms.apart 0 2 rfl rfl rfl)
     replace hms : MS w43 [blk ai34, [b4], B43, M] := hms.upd 2 he43 rfl hn43
     have hfr2 : FR w.heap.size [blk ai34, [b4], B43] := hfr.upd 2 rfl hev.size (fun b hb => (hn43 b hb).1)
     replace hev := hev.then he43 (fun b hb => .inr (hfr.at 2 rfl b hb))
     replace hfr := hfr2
     clear hfr2
     replace hf14_1 := hR43
     have hsl : (Value.slice a0_14 (d15_j16).length c0_14) = (Value.slice a0_14 ((d15_j16.set (Int.toNat p3_2) (([p3_0] : List Int) ++ x34))).length c0_14) := by first | (rw [List.length_set]; done) | simp only [List.length_set]
     try rw [hsl]
     clear hsl
     refine x_end rfl ?_
     have hpk : MS w43 [[b4], B43, M] := hms.pick [some 1, some 2, some 3] _ rfl
     have hsu : ∀ x ∈ fl [[b4], B43, M], x ∈ fl [blk ai34, [b4], B43, M] := pick_sub [some 1, some 2, some 3] _ rfl
     replace hs_p0 := hs_p0.sub hsu
     replace hs_p1 := hs_p1.sub hsu
     replace hms := hpk
     replace hfr : FR w.heap.size [[b4], B43] := hfr.pick [some 1, some 2] _ rfl
     clear hpk hsu
     exact k_then ⟨((d15_j16.set (Int.toNat p3_2) (([p3_0] : List Int) ++ x34)), B43), ⟨rfl, rfl, rfl, rfl, trivial⟩, h, hev, hms, hfr, hs_p0, hs_p1, hb4, hf14_1⟩
   refine c_drawn (innr a0_14 B15_j16) [(0, false), (1, false), (2, false), (3, false), (4, false), (5, false), (6, false), (7, false), (8, true), (9, true), (10, false), (11, false), (12, true), (13, true)] _ (by kernel_rfl) rfl ?_
   have hst := Stp.ext (ls := [[b4], B15_j16, M]) (Ev.drew wj16)
   replace hs_p0 := hs_p0.step hst
   replace hs_p1 := hs_p1.step hst
   replace hb4 := (Ev.drew wj16).box hb4 nn
   replace hf14_1 := hf14_1.step (plain_int _) (Ev.drew wj16) nn2
   replace hms := hms.ev (Ev.drew wj16)
   replace hev := hev.ext (Ev.drew wj16)
   refine x_u 1 [(112, .slice a0_14 (d15_j16).length c0_14)] ?_
   refine x_fieldAddr (xv := Vp b4 0) (Vp b4 2) rfl rfl rfl (reads_field tfld30_2 _ _) ?_
   refine x_load (xv := Vp b4 2) (Vi p3_2) rfl rfl rfl (reads_box tcell3 hb4 ((fun x hx h => hms.apart 0 1 rfl rfl rfl x hx (innr_sub _ h)) _ mem1) 2 _ rfl) ?_
   refine x_u 1 [(115, .slice a0_14 (d15_j16).length c0_14)] ?_
   refine x_fieldAddr (xv := Vp b4 0) (Vp b4 2) rfl rfl rfl (reads_field tfld30_2 _ _) ?_
   refine x_load (xv := Vp b4 2) (Vi p3_2) rfl rfl rfl (reads_box tcell3 hb4 ((fun x hx h => hms.apart 0 1 rfl rfl rfl x hx (innr_sub _ h)) _ mem1) 2 _ rfl) ?_
   obtain ⟨x44, hx44, h⟩ := bind_some h
   obtain ⟨g44, ai44, ci44, hr44, hv44⟩ := OwnR.view (P := Try.prog) (Mo := (innr a0_14 B15_j16)) tsl26 hf14_1 hx44
   refine x_indexAddr (xv := .slice a0_14 (d15_j16).length c0_14) (yv := Vi p3_2) (.pointer (some ⟨g44, (Int.toNat p3_2), none⟩)) rfl rfl rfl rfl hr44 ?_
   refine x_load (xv := .pointer (some ⟨g44, (Int.toNat p3_2), none⟩)) (.slice ai44 (x44).length ci44) rfl rfl rfl (RView.loadI tcell22 hv44) ?_
   refine x_fieldAddr (xv := Vp b4 0) (Vp b4 0) rfl rfl rfl (reads_field tfld30_0 _ _) ?_
   refine x_load (xv := Vp b4 0) (Vi p3_0) rfl rfl rfl (reads_box tcell3 hb4 nn 0 _ rfl) ?_
   refine x_buildSlice (vs := [(0, Vi p3_0)]) #[Vi p3_0] 3 rfl rfl rfl (by kernel_rfl) (fun b46 w46 hq46 hb46 he46 hz46 => ?_)
   refine ⟨.inr (he46.nil), ?_⟩
   have hms0 := hms
   have hst := Stp.ext (ls := [[b4], B15_j16, M]) he46
   replace hs_p0 := hs_p0.step hst
   replace hs_p1 := hs_p1.step hst
   replace hb4 := he46.box hb4 nn
   replace hf14_1 := hf14_1.step (plain_int _) he46 nn2
   replace hv44 := hv44.step (plain_int _) he46 nn2
   replace hms := hms.ev he46
   replace hev := hev.ext he46
   have hs46 : SlR (eInt .i64) w46 (fl [[b4], B15_j16, M]) (Ad b46 0) 1 ([p3_0]) := ro_of_box hms0 hq46 hb46 rfl rfl (cells_at (cs := [Vi p3_0]) (CellsOf.cons (c := [Vi p3_0]) rfl CellsOf.nil))
   clear hb46 hms0
   have hin48 := RView.inner hv44 hf14_1
   obtain ⟨B48, hR48, ho48, hs1, hs2, hs3⟩ := OwnR.opn hf14_1 hv44
   replace hf14_1 := hR48
   have hms2 := hms.split 1 rfl hs2 hs1 hs3
   have hsu : ∀ x ∈ fl [blk ai44, [b4], B48, M], x ∈ fl [[b4], B15_j16, M] := split_sub (ls := [[b4], B15_j16, M]) 1 rfl hs2 hs1
   replace hms : MS w46 [blk ai44, [b4], B48, M] := hms2
   replace hfr : FR w.heap.size [blk ai44, [b4], B48] := (hfr.upd 1 rfl hev.size (fun b hb => .inl (hs1 b hb))).push (fun b hb => hfr.at 1 rfl b (hs2 b hb))
   replace hs_p0 := hs_p0.sub hsu
   replace hs_p1 := hs_p1.sub hsu
   replace hs46 := hs46.sub hsu
   replace ho48 := OwnS.plain (M' := fl [blk ai44, [b4], B48, M]) (plain_int _) ho48
   have hg48 := hv44.eq
   have hx48 := hv44.at_
   clear hv44 hms2 hs1 hs2 hs3 hsu
   have hg := guard_l h
   replace h := guard_r h
   obtain ⟨a50, c50, w50, hr50, he50, hn50, hm50, hw50⟩ := own_appendN tel22 22 ho48 (mem_flat 0 rfl) hs46 hg
   refine x_builtin (vs := [.slice ai44 (x44).length ci44, .slice (Ad b46 0) ([p3_0]).length 1]) _ w50 rfl rfl rfl rfl (run_value _ _ _ _ hr50) ?_
   refine ⟨.inr (he50.sub hin48), ?_⟩
   have hst : Stp (fl [blk ai44, [b4], B48, M]) w46 (fl [blk a50, [b4], B48, M]) w50 := Stp.upd 0 he50 rfl (fun b hb => (hn50 b hb).1)
   replace hs_p0 := hs_p0.step hst
   replace hs_p1 := hs_p1.step hst
   replace hb4 := he50.box hb4 (hms.apart 1 0 rfl rfl rfl _ mem1)
   replace hf14_1 := hf14_1.step (plain_int _) he50 (hms.apart 2 0 rfl rfl rfl)
   replace hs46 := hs46.step hst
   replace hms : MS w50 [blk a50, [b4], B48, M] := hms.upd 0 he50 rfl hn50
   have hfr2 : FR w.heap.size [blk a50, [b4], B48] := hfr.upd 0 rfl hev.size (fun b hb => (hn50 b hb).1)
   replace hev := hev.then he50 (fun b hb => .inr (hfr.at 0 rfl b hb))
   replace hfr := hfr2
   clear hfr2
   replace ho48 := hw50 (fl [blk a50, [b4], B48, M]) hst.new
   clear hw50
   obtain ⟨x51, hx51, h⟩ := bind_some h
   obtain ⟨g51, hg51, hr51, hy51⟩ := OwnR.addr (P := Try.prog) (Mo := []) tsl26 hf14_1 hx51
   refine x_indexAddr (xv := .slice a0_14 (d15_j16).length c0_14) (yv := Vi p3_2) (.pointer (some ⟨g51, (Int.toNat p3_2), none⟩)) rfl rfl rfl rfl hr51 ?_
   obtain ⟨w53, B53, hr53, he53, hn53, hR53⟩ := OwnR.cls (P := Try.prog) (plain_int _) tcell22 hf14_1 hg51 hy51 ho48 (hms.apart 0 2 rfl rfl rfl) (hms.ltat 2 rfl)
   refine x_store w53 (xv := .pointer (some ⟨g51, (Int.toNat p3_2), none⟩)) (yv := .slice a50 ((x44 ++ [p3_0])).length c50) rfl rfl rfl rfl hr53 ?_
   refine inl1 ?_
   have hms2 := hms.merge (C := blk a50 ++ B48) 0 2 rfl rfl (fun x hx => List.mem_append.1 hx)
   replace hfr : FR w.heap.size [[b4], blk a50 ++ B48] := (FR.cons (hfr.at 1 rfl) (FR.cons (fun b hb => (List.mem_append.1 hb).elim (hfr.at 0 rfl b) (hfr.at 2 rfl b)) (FR.nil _)))
   have hsu : ∀ x ∈ fl [[b4], blk a50 ++ B48, M], x ∈ fl [blk a50, [b4], B48, M] := merge_sub (ls := [blk a50, [b4], B48, M]) (C := blk a50 ++ B48) 0 2 rfl rfl (fun x hx => List.mem_append.1 hx)
   replace hms : MS w50 [[b4], blk a50 ++ B48, M] := hms2
   replace hs_p0 := hs_p0.sub hsu
   replace hs_p1 := hs_p1.sub hsu
   replace hs46 := hs46.sub hsu
   clear hms2 hsu
   have hst : Stp (fl [[b4], blk a50 ++ B48, M]) w50 (fl [[b4], B53, M]) w53 := Stp.upd 1 he53 rfl (fun b hb => (hn53 b hb).1)
   replace hs_p0 := hs_p0.step hst
   replace hs_p1 := hs_p1.step hst
   replace hb4 := he53.box hb4 (hms.apart 0 1 rfl rfl rfl _ mem1)
   replace hs46 := hs46.step hst
   replace hms : MS w53 [[b4], B53, M] := hms.upd 1 he53 rfl hn53
   have hfr2 : FR w.heap.size [[b4], B53] := hfr.upd 1 rfl hev.size (fun b hb => (hn53 b hb).1)
   replace hev := hev.then he53 (fun b hb => .inr (hfr.at 1 rfl b hb))
   replace hfr := hfr2
   clear hfr2
   replace hf14_1 := hR53
   have hsl : (Value.slice a0_14 (d15_j16).length c0_14) = (Value.slice a0_14 ((d15_j16.set (Int.toNat p3_2) (x44 ++ [p3_0]))).length c0_14) := by first | (rw [List.length_set]; done) | simp only [List.length_set]
   try rw [hsl]
   clear hsl
   refine x_end rfl ?_
   exact k_then ⟨((d15_j16.set (Int.toNat p3_2) (x44 ++ [p3_0])), B53), ⟨rfl, rfl, rfl, rfl, trivial⟩, h, hev, hms, hfr, hs_p0, hs_p1, hb4, hf14_1⟩
 rintro ⟨d15_j33, B15_j33⟩ J wj33 ⟨h, hev, hms, hfr, hs_p0, hs_p1, hb4, hf14_1⟩
 refine c_seq ?_
 refine c_seq ?_
 refine c_drawn [] [(0, false), (1, false), (2, false), (3, false), (4, false), (5, false), (7, false), (8, false), (9, false), (10, false), (11, false), (12, false), (6, false), (13, false)] _ (by kernel_rfl) rfl ?_
 have hst := Stp.ext (ls := [[b4], B15_j33, M]) (Ev.drew wj33)
 replace hs_p0 := hs_p0.step hst
 replace hs_p1 := hs_p1.step hst
 replace hb4 := (Ev.drew wj33).box hb4 nn
 replace hf14_1 := hf14_1.step (plain_int _) (Ev.drew wj33) nn2
 replace hms := hms.ev (Ev.drew wj33)
 replace hev := hev.ext (Ev.drew wj33)
 refine x_u 2 [(125, .slice a_p1 (p1).length c_p1), (126, .slice a0_14 (d15_j33).length c0_14)] ?_
 refine x_fieldAddr (xv := Vp b4 0) (Vp b4 2) rfl rfl rfl (reads_field tfld30_2 _ _) ?_
 refine x_load (xv := Vp b4 2) (Vi p3_2) rfl rfl rfl (reads_box tcell3 hb4 nn 2 _ rfl) ?_
 obtain ⟨x54, hx54, h⟩ := bind_some h
 obtain ⟨g54, ai54, ci54, hr54, hv54⟩ := OwnR.view (P := Try.prog) (Mo := []) tsl26 hf14_1 hx54
 refine x_indexAddr (xv := .slice a0_14 (d15_j33).length c0_14) (yv := Vi p3_2) (.pointer (some ⟨g54, (Int.toNat p3_2), none⟩)) rfl rfl rfl rfl hr54 ?_
 refine x_load (xv := .pointer (some ⟨g54, (Int.toNat p3_2), none⟩)) (.slice ai54 (x54).length ci54) rfl rfl rfl (RView.load tcell22 hv54) ?_
 refine x_u 1 [(132, .slice a_p0 (p0).length c_p0)] ?_
 refine x_fieldAddr (xv := Vp b4 0) (Vp b4 2) rfl rfl rfl (reads_field tfld30_2 _ _) ?_
 refine x_load (xv := Vp b4 2) (Vi p3_2) rfl rfl rfl (reads_box tcell3 hb4 nn 2 _ rfl) ?_
 obtain ⟨x56, hx56, h⟩ := bind_some h
 obtain ⟨ad56, cs56, hr56, hc56, hR⟩ := reads_index (Mo := []) tsl25 hs_p0 hx56
 obtain ⟨_, _, rfl, rfl, rfl⟩ := hR
 refine x_indexAddr (xv := .slice a_p0 (p0).length c_p0) (yv := Vi p3_2) (.pointer (some ad56)) rfl rfl rfl rfl hr56 ?_
 refine x_fieldAddr (xv := .pointer (some ad56)) (.pointer (some (Addr.add ad56 1))) rfl rfl rfl (reads_field tfld45_1 _ _) ?_
 refine x_load (xv := .pointer (some (Addr.add ad56 1))) (Vi x56.2) rfl rfl rfl (reads_cell tcell3 hc56 (fun _ h => by cases h) 1 _ rfl) ?_
 obtain ⟨x58, hx, h⟩ := bind_some h
 have hpk : MS (wj33).drew ([] ++ [[b4], M]) := hms.pick [some 0, some 2] _ rfl
 have hsb0 : ∀ x ∈ fl ([] ++ [[b4], M]), x ∈ fl [[b4], B15_j33, M] := pick_sub [some 0, some 2] _ rfl
 have hsb : ∀ x ∈ fl ([] ++ [(fl [[b4], M])]), x ∈ fl [[b4], B15_j33, M] := fun x hx => hsb0 x (fl_unfold x hx)
 have hcall := r42_sum_w a_p1 c_p1 p1 ai54 ci54 x54 _ (wj33).drew (fl [[b4], M]) (MS.fold (P := []) hpk) (hs_p1.sub hsb) (RView.ro (plain_int _) hv54 (fun b hb hb2 => pick_out hms 1 rfl [some 0, some 2] ([] ++ [[b4], M]) rfl rfl b hb (fl_unfold b hb2))) hx
 refine x_call 31 #[] #[] [.slice a_p1 (p1).length c_p1, .slice ai54 (x54).length ci54] _ rfl rfl rfl rfl hcall ?_
 rintro v w59 ⟨rfl, he59⟩
 clear hcall hx
 refine ⟨.inr he59, ?_⟩
 have hst := Stp.ext (ls := [[b4], B15_j33, M]) he59
 replace hs_p0 := hs_p0.step hst
 replace hs_p1 := hs_p1.step hst
 replace hb4 := he59.box hb4 nn
 replace hf14_1 := hf14_1.step (plain_int _) he59 nn2
 replace hv54 := hv54.step (plain_int _) he59 nn2
 replace hc56 := hc56.step hst
 replace hms := hms.ev he59
 replace hev := hev.ext he59
 clear hpk hsb hsb0
 refine x_u 1 [(138, .bool (decide (x58 > x56.2)))] ?_
 refine x_ek ?_
 refine c_norm [(12, .slice a0_14 (d15_j33).length c0_14), (138, .bool (decide (x58 > x56.2)))] ⟨rfl, rfl, trivial⟩ (fun J => ?_)
 refine c_if (decide (x58 > x56.2)) rfl h (fun h => ?_) (fun h => ?_)
 · refine c_sp ?_
   refine x_u 2 [(8, .slice none 0 0), (9, Vi 14)] ?_
   refine x_ek ?_
   refine c_ret ?_
   refine k_then_ret ?_
   refine r_ret (r_vals [.slice none 0 0, Vi 14] ⟨rfl, rfl, trivial⟩ ?_)
   have hx := some_inj h
   subst hx
   have hmr : MS w59 [([] : List Nat), M] := hms.pick [none, some 2] _ rfl
   have hsu : ∀ x ∈ fl [([] : List Nat), M], x ∈ fl [[b4], B15_j33, M] := pick_sub [none, some 2] _ rfl
   have hfe : FR w.heap.size [([] : List Nat)] := hfr.pick [none] _ rfl
   exact ⟨none, 0, ([] : List Nat), rfl, hev, hmr, hfe, OwnR.nil _ _ _ _ _⟩
 refine c_skip ?_
 refine k_then ?_
 refine c_sp ?_
 refine x_u 3 [(139, .slice a0_14 (d15_j33).length c0_14), (8, .slice a0_14 (d15_j33).length c0_14), (9, Vi 0)] ?_
 refine x_ek ?_
 refine c_ret ?_
 refine r_ret (r_vals [.slice a0_14 (d15_j33).length c0_14, Vi 0] ⟨rfl, rfl, trivial⟩ ?_)
 have hx := some_inj h
 subst hx
 have hmr : MS w59 [B15_j33, M] := hms.pick [some 1, some 2] _ rfl
 have hsu : ∀ x ∈ fl [B15_j33, M], x ∈ fl [[b4], B15_j33, M] := pick_sub [some 1, some 2] _ rfl
 have hfe : FR w.heap.size [B15_j33] := hfr.pick [some 1] _ rfl
 exact ⟨a0_14, c0_14, B15_j33, rfl, hev, hmr, hfe, hf14_1⟩
def r42_Run_L12 (p0 : List ((List UInt8) × Int)) (p1 : List Int) (p3 : List (Int × Int × Int × Bool)) (s : (List (List Int)) × Int) : Option (Step ((List (List Int)) × Int) ((Int × Int) ⊕ (List (List Int)))) :=
match s with
| (d10_l12, i_s12_l12) =>
(if (decide (i_s12_l12 < ((p3).length : Int))) = true then
((idx p3 i_s12_l12).bind fun x14 =>
((r42_Apply p0 p1 d10_l12 x14.1 x14.2.1 x14.2.2.1 x14.2.2.2).bind fun x16 =>
(if (x16.2 != 0) = true then
some (.done (.inl (i_s12_l12, x16.2)))
else
some (.next (x16.1, IntKind.i64.wrap (i_s12_l12 + 1))))))
else
some (.done (.inr d10_l12)))

def r42_Run (p0 : List ((List UInt8) × Int)) (p1 : List Int) (p2 : List (List Int)) (p3 : List (Int × Int × Int × Bool)) : Option ((List (List Int)) × Int × Int) :=
((r42_Valid p0 p1 p2).bind fun x6 =>
(if (!x6) = true then
some ([], 0, 1)
else
((r42_Copy p2).bind fun x8 =>
((loop (r42_Run_L12 p0 p1 p3) (x8, 0)).bind fun d => match d with
| (.inl (t9__s9_x1200, t10__s10_x1200)) => some ([], t9__s9_x1200, t10__s10_x1200)
| (.inr d10_x1201) => some (d10_x1201, ((p3).length : Int), 0)))))

theorem r42_Run_w (a_p0 : Option Addr) (c_p0 : Nat) (p0 : List ((List UInt8) × Int)) (a_p1 : Option Addr) (c_p1 : Nat) (p1 : List Int) (a_p2 : Option Addr) (c_p2 : Nat) (p2 : List (List Int)) (a_p3 : Option Addr) (c_p3 : Nat) (p3 : List (Int × Int × Int × Bool)) (r : (List (List Int)) × Int × Int) (w : World) (M : List Nat) (hms : MS w [M]) (hs_p0 : SlR (eProd eStr (eInt .i64)) w (fl [M]) a_p0 c_p0 p0) (hs_p1 : SlR (eInt .i64) w (fl [M]) a_p1 c_p1 p1) (hs_p2 : SlR (eSl (eInt .i64)) w (fl [M]) a_p2 c_p2 p2) (hs_p3 : SlR (eProd (eInt .i64) (eProd (eInt .i64) (eProd (eInt .i64) eBool))) w (fl [M]) a_p3 c_p3 p3) (h : r42_Run p0 p1 p2 p3 = some r) : CallVC Try.prog 28 [Vl a_p0 p0 c_p0, Vl a_p1 p1 c_p1, Vl a_p2 p2 c_p2, Vl a_p3 p3 c_p3] w fun v w' => ∃ (a0' : Option Addr), ∃ (c0' : Nat), ∃ (B2' : List Nat), v = .tuple #[Vl a0' r.1 c0', Vi r.2.1, Vi r.2.2] ∧ Ev [] w w' ∧ MS w' [B2', M] ∧ FR w.heap.size [B2'] ∧ OwnR (eInt .i64) 3 22 w' B2' a0' c0' r.1 none := by
 refine calls_vc hmx Try.func28 (by kernel_rfl) rfl (rs := [.tmp 8, .tmp 9, .tmp 10]) rfl (by kernel_rfl) (args := [Vl a_p0 p0 c_p0, Vl a_p1 p1 c_p1, Vl a_p2 p2 c_p2, Vl a_p3 p3 c_p3]) rfl ?_
 have hev : Ev [] w w := Ev.refl _ _
 have hfr : FR w.heap.size [] := FR.nil _
 refine c_sp ?_
 refine x_u 3 [(8, .slice none 0 0), (9, Vi 0), (10, Vi 0)] ?_
 refine x_ek ?_
 refine c_seq ?_
 refine c_sp ?_
 refine x_u 3 [(15, Vl a_p0 p0 c_p0), (16, Vl a_p1 p1 c_p1), (17, Vl a_p2 p2 c_p2)] ?_
 obtain ⟨x6, hx, h⟩ := bind_some h
 have hpk : MS w ([] ++ [M]) := hms.pick [some 0] _ rfl
 have hsb0 : ∀ x ∈ fl ([] ++ [M]), x ∈ fl [M] := pick_sub [some 0] _ rfl
 have hsb : ∀ x ∈ fl ([] ++ [(fl [M])]), x ∈ fl [M] := fun x hx => hsb0 x (fl_unfold x hx)
 have hcall := r42_Valid_w a_p0 c_p0 p0 a_p1 c_p1 p1 a_p2 c_p2 p2 _ w (fl [M]) (MS.fold (P := []) hpk) (hs_p0.sub hsb) (hs_p1.sub hsb) (hs_p2.sub hsb) hx
 refine x_call 20 #[] #[] [Vl a_p0 p0 c_p0, Vl a_p1 p1 c_p1, Vl a_p2 p2 c_p2] _ rfl rfl rfl rfl hcall ?_
 rintro v w7 ⟨rfl, he7⟩
 clear hcall hx
 refine inl1 ?_
 have hst := Stp.ext (ls := [M]) he7
 replace hs_p0 := hs_p0.step hst
 replace hs_p1 := hs_p1.step hst
 replace hs_p2 := hs_p2.step hst
 replace hs_p3 := hs_p3.step hst
 replace hms := hms.ev he7
 replace hev := hev.ext he7
 clear hpk hsb hsb0
 refine x_u 1 [(19, .bool (!x6))] ?_
 refine x_ek ?_
 refine c_if (!x6) rfl h (fun h => ?_) (fun h => ?_)
 · refine c_sp ?_
   refine x_u 3 [(8, .slice none 0 0), (9, Vi 0), (10, Vi 1)] ?_
   refine x_ek ?_
   refine c_ret ?_
   refine k_then_ret ?_
   refine r_ret (r_vals [.slice none 0 0, Vi 0, Vi 1] ⟨rfl, rfl, rfl, trivial⟩ ?_)
   have hx := some_inj h
   subst hx
   have hmr : MS w7 [([] : List Nat), M] := hms.pick [none, some 0] _ rfl
   have hsu : ∀ x ∈ fl [([] : List Nat), M], x ∈ fl [M] := pick_sub [none, some 0] _ rfl
   have hfe : FR w.heap.size [([] : List Nat)] := hfr.pick [none] _ rfl
   exact ⟨none, 0, ([] : List Nat), rfl, hev, hmr, hfe, OwnR.nil _ _ _ _ _⟩
 refine c_skip ?_
 refine k_then ?_
 refine c_sp ?_
 refine x_u 1 [(20, Vl a_p2 p2 c_p2)] ?_
 obtain ⟨x8, hx, h⟩ := bind_some h
 have hpk : MS w7 ([] ++ [M]) := hms.pick [some 0] _ rfl
 have hsb0 : ∀ x ∈ fl ([] ++ [M]), x ∈ fl [M] := pick_sub [some 0] _ rfl
 have hsb : ∀ x ∈ fl ([] ++ [(fl [M])]), x ∈ fl [M] := fun x hx => hsb0 x (fl_unfold x hx)
 have hcall := r42_Copy_w a_p2 c_p2 p2 _ w7 (fl [M]) (MS.fold (P := []) hpk) (hs_p2.sub hsb) hx
 refine x_call 30 #[] #[] [Vl a_p2 p2 c_p2] _ rfl rfl rfl rfl hcall ?_
 rintro v w9 ⟨a0_9, c0_9, B2_9, rfl, he9, hmn9, hfn9, hf9_1⟩
 clear hcall hx
 refine inl1 ?_
 have hpk2 : MS w7 ([] ++ [M]) := hms.pick [some 0] _ rfl
 have hsb2 : ∀ x ∈ fl ([] ++ [M]), x ∈ fl [M] := pick_sub [some 0] _ rfl
 have hst0 := Stp.call (LS := [M]) (res := [B2_9]) (par := []) (R := [M]) he9 (fun b hb => hsb2 b (fl_left' (P := []) b hb)) hfn9 (NP.init _ _) (fun x hx => hsb2 x (fl_right' (P := []) x hx))
 have hsn : ∀ x ∈ fl [B2_9, M], x ∈ fl ([B2_9] ++ ([] ++ [M])) := pick_sub [some 0, some 1] _ rfl
 have hst := hst0.res hsn
 replace hs_p0 := hs_p0.step hst
 replace hs_p1 := hs_p1.step hst
 replace hs_p2 := hs_p2.step hst
 replace hs_p3 := hs_p3.step hst
 replace hms : MS w9 [B2_9, M] := (MS.call (P := []) (R := [M]) (res := [B2_9]) (par := []) hpk2 he9 hmn9 hfn9 (NP.init _ _)).pick [some 0, some 1] _ rfl
 have hfr2 : FR w.heap.size [B2_9] := (FR.cons (fun b hb => Nat.le_trans hev.size (hfn9.at 0 rfl b hb)) (FR.nil _))
 replace hev := hev.ext he9
 replace hfr := hfr2
 clear hfr2
 clear hpk hsb hsb0 hpk2 hsb2 hst0 hsn hst
 refine x_u 1 [(11, Vl a0_9 x8 c0_9)] ?_
 refine x_ek ?_
 refine c_seq ?_
 refine c_sp ?_
 refine x_u 1 [(12, Vi 0)] ?_
 refine x_ek ?_
 refine c_block ?_
 obtain ⟨d12, hd12, h12⟩ := bind_some h
 obtain ⟨m12, hd12⟩ := loop_some hd12
 refine c_loop (loop_rule hmx (σ := Nat × (List (List Int)) × Int × Option Addr × Nat × List Nat) (fun s => match s with | (_, d10_l12, i_s12_l12, a10_l12, c10_l12, B10_l12) => [(0, Vl a_p0 p0 c_p0), (1, Vl a_p1 p1 c_p1), (3, Vl a_p3 p3 c_p3), (11, Vl a10_l12 d10_l12 c10_l12), (12, Vi i_s12_l12)]) (fun s w' => match s with | (m, d10_l12, i_s12_l12, a10_l12, c10_l12, B10_l12) => loopN (r42_Run_L12 p0 p1 p3) m (d10_l12, i_s12_l12) = some d12 ∧ Ev [] w w' ∧ MS w' [B10_l12, M] ∧ FR w.heap.size [B10_l12] ∧ SlR (eProd eStr (eInt .i64)) w' (fl [B10_l12, M]) a_p0 c_p0 p0 ∧ SlR (eInt .i64) w' (fl [B10_l12, M]) a_p1 c_p1 p1 ∧ SlR (eProd (eInt .i64) (eProd (eInt .i64) (eProd (eInt .i64) eBool))) w' (fl [B10_l12, M]) a_p3 c_p3 p3 ∧ OwnR (eInt .i64) 3 22 w' B10_l12 a10_l12 c10_l12 d10_l12 none) (fun s => s.1) (m12, x8, 0, a0_9, c0_9, B2_9) ⟨rfl, rfl, rfl, rfl, rfl, trivial⟩ ⟨hd12, hev, hms, hfr, hs_p0, hs_p1, hs_p3, hf9_1⟩ ?_)
 rintro ⟨m12, d10_l12, i_s12_l12, a10_l12, c10_l12, B10_l12⟩ J wl12 ⟨hn12, hev, hms, hfr, hs_p0, hs_p1, hs_p3, hj10_l12⟩
 rcases m12 with _ | m12
 · exact (loopN_zero hn12).elim
 obtain ⟨t12, h, hn12⟩ := bind_some hn12
 refine c_seq ?_
 refine c_sp ?_
 refine x_u 2 [(22, Vi i_s12_l12), (23, Vl a_p3 p3 c_p3)] ?_
 refine x_len (vs := [Vl a_p3 p3 c_p3]) (Vi ((p3).length : Int)) rfl rfl rfl (reads_len tsl41 _ _ _ _ _) ?_
 refine x_u 1 [(25, .bool (decide (i_s12_l12 < ((p3).length : Int))))] ?_
 refine x_ek ?_
 refine c_norm [(0, Vl a_p0 p0 c_p0), (1, Vl a_p1 p1 c_p1), (3, Vl a_p3 p3 c_p3), (11, Vl a10_l12 d10_l12 c10_l12), (12, Vi i_s12_l12), (25, .bool (decide (i_s12_l12 < ((p3).length : Int))))] ⟨rfl, rfl, rfl, rfl, rfl, rfl, trivial⟩ (fun J => ?_)
 refine c_if (decide (i_s12_l12 < ((p3).length : Int))) rfl h (fun h => ?_) (fun h => ?_)
 · refine c_skip ?_
   refine k_then ?_
   refine c_seq ?_
   refine c_block ?_
   refine c_sp ?_
   refine x_u 5 [(29, Vl a_p0 p0 c_p0), (30, Vl a_p1 p1 c_p1), (31, Vl a10_l12 d10_l12 c10_l12), (32, Vl a_p3 p3 c_p3), (33, Vi i_s12_l12)] ?_
   obtain ⟨x14, hx14, h⟩ := bind_some h
   obtain ⟨ad14, cs14, hr14, hc14, hR⟩ := reads_index (Mo := []) tsl41 hs_p3 hx14
   obtain ⟨_, _, rfl, rfl, ⟨_, _, rfl, rfl, ⟨_, _, rfl, rfl, rfl⟩⟩⟩ := hR
   refine x_indexAddr (xv := Vl a_p3 p3 c_p3) (yv := Vi i_s12_l12) (.pointer (some ad14)) rfl rfl rfl rfl hr14 ?_
   refine x_load (xv := .pointer (some ad14)) (.agg #[Vi x14.1, Vi x14.2.1, Vi x14.2.2.1, .bool x14.2.2.2]) rfl rfl rfl (reads_agg tagg30 hc14 (fun _ h => by cases h)) ?_
   obtain ⟨x16, hx, h⟩ := bind_some h
   have hpk : MS wl12 ([] ++ [M]) := hms.pick [some 1] _ rfl
   have hsb0 : ∀ x ∈ fl ([] ++ [M]), x ∈ fl [B10_l12, M] := pick_sub [some 1] _ rfl
   have hsb : ∀ x ∈ fl ([] ++ [(fl [M])]), x ∈ fl [B10_l12, M] := fun x hx => hsb0 x (fl_unfold x hx)
   have hcall := r42_Apply_w a_p0 c_p0 p0 a_p1 c_p1 p1 a10_l12 c10_l12 d10_l12 x14.1 x14.2.1 x14.2.2.1 x14.2.2.2 _ wl12 (fl [M]) (MS.fold (P := []) hpk) (hs_p0.sub hsb) (hs_p1.sub hsb) (OwnR.ro (plain_int _) hj10_l12 (fun b hb hb2 => pick_out hms 0 rfl [some 1] ([] ++ [M]) rfl rfl b hb (fl_unfold b hb2))) hx
   refine x_call 17 #[] #[] [Vl a_p0 p0 c_p0, Vl a_p1 p1 c_p1, Vl a10_l12 d10_l12 c10_l12, .agg #[Vi x14.1, Vi x14.2.1, Vi x14.2.2.1, .bool x14.2.2.2]] _ rfl rfl rfl rfl hcall ?_
   rintro v w17 ⟨a0_17, c0_17, B2_17, rfl, he17, hmn17, hfn17, hf17_1⟩
   clear hcall hx
   refine inl1 ?_
   have hpk2 : MS wl12 ([] ++ [B10_l12, M]) := hms.pick [some 0, some 1] _ rfl
   have hsb2 : ∀ x ∈ fl ([] ++ [B10_l12, M]), x ∈ fl [B10_l12, M] := pick_sub [some 0, some 1] _ rfl
   have hst0 := Stp.call (LS := [B10_l12, M]) (res := [B2_17]) (par := []) (R := [B10_l12, M]) he17 (fun b hb => hsb2 b (fl_left' (P := []) b hb)) hfn17 (NP.init _ _) (fun x hx => hsb2 x (fl_right' (P := []) x hx))
   have hsn : ∀ x ∈ fl [B2_17, B10_l12, M], x ∈ fl ([B2_17] ++ ([] ++ [B10_l12, M])) := pick_sub [some 0, some 1, some 2] _ rfl
   have hst := hst0.res hsn
   replace hs_p0 := hs_p0.step hst
   replace hs_p1 := hs_p1.step hst
   replace hs_p3 := hs_p3.step hst
   replace hj10_l12 := hj10_l12.step (plain_int _) he17 (MS.outs (P := []) hpk2 0 rfl)
   replace hc14 := hc14.step hst
   replace hms : MS w17 [B2_17, B10_l12, M] := (MS.call (P := []) (R := [B10_l12, M]) (res := [B2_17]) (par := []) hpk2 he17 hmn17 hfn17 (NP.init _ _)).pick [some 0, some 1, some 2] _ rfl
   have hfr2 : FR w.heap.size [B2_17, B10_l12] := (FR.cons (fun b hb => Nat.le_trans hev.size (hfn17.at 0 rfl b hb)) (FR.cons (hfr.at 0 rfl) (FR.nil _)))
   replace hev := hev.ext he17
   replace hfr := hfr2
   clear hfr2
   clear hpk hsb hsb0 hpk2 hsb2 hst0 hsn hst
   refine x_u 5 [(28, .tuple #[Vl a0_17 x16.1 c0_17, Vi x16.2]), (37, Vl a0_17 x16.1 c0_17), (38, Vi x16.2), (13, Vl a0_17 x16.1 c0_17), (14, Vi x16.2)] ?_
   refine x_ek ?_
   refine c_norm [(0, Vl a_p0 p0 c_p0), (1, Vl a_p1 p1 c_p1), (3, Vl a_p3 p3 c_p3), (12, Vi i_s12_l12), (13, Vl a0_17 x16.1 c0_17), (14, Vi x16.2)] ⟨rfl, rfl, rfl, rfl, rfl, rfl, trivial⟩ (fun J => ?_)
   refine c_seq ?_
   refine c_sp ?_
   refine x_u 2 [(39, Vi x16.2), (40, .bool (x16.2 != 0))] ?_
   refine x_ek ?_
   refine c_if (x16.2 != 0) rfl h (fun h => ?_) (fun h => ?_)
   · refine c_sp ?_
     refine x_u 5 [(41, Vi i_s12_l12), (42, Vi x16.2), (8, .slice none 0 0), (9, Vi i_s12_l12), (10, Vi x16.2)] ?_
     refine x_ek ?_
     refine c_ret ?_
     refine k_then_ret ?_
     refine k_block_ret ?_
     refine k_then_ret ?_
     have hx := some_inj h
     subst hx
     have hy := some_inj hn12
     subst hy
     replace h := h12
     refine k_then_ret ?_
     refine k_block_ret ?_
     refine k_then_ret ?_
     refine r_ret (r_vals [.slice none 0 0, Vi i_s12_l12, Vi x16.2] ⟨rfl, rfl, rfl, trivial⟩ ?_)
     have hx := some_inj h
     subst hx
     have hmr : MS w17 [([] : List Nat), M] := hms.pick [none, some 2] _ rfl
     have hsu : ∀ x ∈ fl [([] : List Nat), M], x ∈ fl [B2_17, B10_l12, M] := pick_sub [none, some 2] _ rfl
     have hfe : FR w.heap.size [([] : List Nat)] := hfr.pick [none] _ rfl
     exact ⟨none, 0, ([] : List Nat), rfl, hev, hmr, hfe, OwnR.nil _ _ _ _ _⟩
   refine c_skip ?_
   refine k_then ?_
   refine c_plain ?_
   refine x_u 2 [(43, Vl a0_17 x16.1 c0_17), (11, Vl a0_17 x16.1 c0_17)] ?_
   refine x_end rfl ?_
   refine k_block ?_
   refine k_then ?_
   refine c_plain ?_
   refine x_u 3 [(26, Vi i_s12_l12), (27, Vi (IntKind.i64.wrap (i_s12_l12 + 1))), (12, Vi (IntKind.i64.wrap (i_s12_l12 + 1)))] ?_
   refine x_end rfl ?_
   have hx := some_inj h
   subst hx
   have hpk : MS w17 [B2_17, M] := hms.pick [some 0, some 2] _ rfl
   have hsu : ∀ x ∈ fl [B2_17, M], x ∈ fl [B2_17, B10_l12, M] := pick_sub [some 0, some 2] _ rfl
   replace hs_p0 := hs_p0.sub hsu
   replace hs_p1 := hs_p1.sub hsu
   replace hs_p3 := hs_p3.sub hsu
   replace hms := hpk
   replace hfr : FR w.heap.size [B2_17] := hfr.pick [some 0] _ rfl
   clear hpk hsu
   exact k_then ⟨(m12, x16.1, IntKind.i64.wrap (i_s12_l12 + 1), a0_17, c0_17, B2_17), ⟨rfl, rfl, rfl, rfl, rfl, trivial⟩, ⟨hn12, hev, hms, hfr, hs_p0, hs_p1, hs_p3, hf17_1⟩, Nat.lt_succ_self _⟩
 refine c_exit ?_
 refine k_then_exit ?_
 have hx := some_inj h
 subst hx
 have hy := some_inj hn12
 subst hy
 replace h := h12
 refine k_then_exit ?_
 refine k_block_in ?_
 refine k_then ?_
 refine c_norm [(3, Vl a_p3 p3 c_p3), (11, Vl a10_l12 d10_l12 c10_l12)] ⟨rfl, rfl, trivial⟩ (fun J => ?_)
 refine c_sp ?_
 refine x_u 2 [(44, Vl a10_l12 d10_l12 c10_l12), (45, Vl a_p3 p3 c_p3)] ?_
 refine x_len (vs := [Vl a_p3 p3 c_p3]) (Vi ((p3).length : Int)) rfl rfl rfl (reads_len tsl41 _ _ _ _ _) ?_
 refine x_u 3 [(8, Vl a10_l12 d10_l12 c10_l12), (9, Vi ((p3).length : Int)), (10, Vi 0)] ?_
 refine x_ek ?_
 refine c_ret ?_
 refine r_ret (r_vals [Vl a10_l12 d10_l12 c10_l12, Vi ((p3).length : Int), Vi 0] ⟨rfl, rfl, rfl, trivial⟩ ?_)
 have hx := some_inj h
 subst hx
 have hmr : MS wl12 [B10_l12, M] := hms.pick [some 0, some 1] _ rfl
 have hsu : ∀ x ∈ fl [B10_l12, M], x ∈ fl [B10_l12, M] := pick_sub [some 0, some 1] _ rfl
 have hfe : FR w.heap.size [B10_l12] := hfr.pick [some 0] _ rfl
 exact ⟨a10_l12, c10_l12, B10_l12, rfl, hev, hmr, hfe, hj10_l12⟩
def r42_String_L12 (p0 : List (List Int)) (p1 : Int) (p2 : Int) (s : (List (Int × Int × Int × Bool)) × Int) : Option (Step ((List (Int × Int × Int × Bool)) × Int) (List (Int × Int × Int × Bool))) :=
match s with
| (d14_l12, i_s11_l12) =>
((idx p0 p1).bind fun x16 =>
(if (decide (i_s11_l12 < ((x16).length : Int))) = true then
((idx p0 p1).bind fun x20 =>
((idx x20 i_s11_l12).bind fun x24 =>
(if d14_l12.length + ([(x24, p1, p2, false)] : List (Int × Int × Int × Bool)).length ≤ 4294967296 then
some (.next ((d14_l12 ++ ([(x24, p1, p2, false)] : List (Int × Int × Int × Bool))), IntKind.i64.wrap (i_s11_l12 + 1)))
else none)))
else
some (.done d14_l12)))

def r42_String (p0 : List (List Int)) (p1 : Int) (p2 : Int) (p3 : Int) : Option ((List (Int × Int × Int × Bool)) × Int) :=
(if (decide (p1 < 0)) = true then
some ([], 2)
else
(if (decide (p1 ≥ ((p0).length : Int))) = true then
some ([], 2)
else
(if (decide (p2 < 0)) = true then
some ([], 2)
else
(if (decide (p2 ≥ ((p0).length : Int))) = true then
some ([], 2)
else
(if (p1 == p2) = true then
some ([], 2)
else
(if (decide (p3 < 0)) = true then
some ([], 13)
else
((idx p0 p1).bind fun x4 =>
(if (decide (p3 > ((x4).length : Int))) = true then
some ([], 13)
else
((idx p0 p1).bind fun x8 =>
((loop (r42_String_L12 p0 p1 p2) (([] : List (Int × Int × Int × Bool)), IntKind.i64.wrap (((x8).length : Int) - p3))).bind fun d => match d with
| d14_x12 => some (d14_x12, 0)))))))))))

theorem r42_String_w (a_p0 : Option Addr) (c_p0 : Nat) (p0 : List (List Int)) (p1 : Int) (p2 : Int) (p3 : Int) (r : (List (Int × Int × Int × Bool)) × Int) (w : World) (M : List Nat) (hms : MS w [M]) (hs_p0 : SlR (eSl (eInt .i64)) w (fl [M]) a_p0 c_p0 p0) (h : r42_String p0 p1 p2 p3 = some r) : CallVC Try.prog 29 [Vl a_p0 p0 c_p0, Vi p1, Vi p2, Vi p3] w fun v w' => ∃ (a0' : Option Addr), ∃ (c0' : Nat), v = .tuple #[Vl a0' r.1 c0', Vi r.2] ∧ Ev [] w w' ∧ MS w' [blk a0', M] ∧ FR w.heap.size [blk a0'] ∧ OwnS (eProd (eInt .i64) (eProd (eInt .i64) (eProd (eInt .i64) eBool))) 30 w' (fl [blk a0', M]) a0' c0' r.1 := by
 refine calls_vc hmx Try.func29 (by kernel_rfl) rfl (rs := [.tmp 8, .tmp 9]) rfl (by kernel_rfl) (args := [Vl a_p0 p0 c_p0, Vi p1, Vi p2, Vi p3]) rfl ?_
 have hev : Ev [] w w := Ev.refl _ _
 have hfr : FR w.heap.size [] := FR.nil _
 refine c_sp ?_
 refine x_u 2 [(8, .slice none 0 0), (9, Vi 0)] ?_
 refine x_ek ?_
 refine c_seq ?_
 refine c_sp ?_
 refine x_u 3 [(12, Vi p1), (13, .bool (decide (p1 < 0))), (14, .bool (decide (p1 < 0)))] ?_
 refine x_if 14 (decide (p1 < 0)) rfl h (fun h => ?_) (fun h => ?_)
 · refine x_u 20 [(15, undef), (16, undef), (17, undef), (18, undef), (19, .bool true), (20, .bool true), (21, undef), (22, undef), (23, .bool true), (24, .bool true), (25, undef), (26, undef), (27, undef), (28, undef), (29, .bool true), (30, .bool true), (31, undef), (32, undef), (33, undef), (34, .bool true)] ?_
   refine x_ek ?_
   refine c_norm [(0, Vl a_p0 p0 c_p0), (1, Vi p1), (2, Vi p2), (3, Vi p3), (34, .bool true)] ⟨rfl, rfl, rfl, rfl, rfl, trivial⟩ (fun J => ?_)
   refine c_true rfl ?_
   refine c_sp ?_
   refine x_u 2 [(8, .slice none 0 0), (9, Vi 2)] ?_
   refine x_ek ?_
   refine c_ret ?_
   refine k_then_ret ?_
   refine r_ret (r_vals [.slice none 0 0, Vi 2] ⟨rfl, rfl, trivial⟩ ?_)
   have hx := some_inj h
   subst hx
   have hmr : MS w [blk none, M] := hms.pick [none, some 0] _ rfl
   have hsu : ∀ x ∈ fl [blk none, M], x ∈ fl [M] := pick_sub [none, some 0] _ rfl
   have hfe : FR w.heap.size [blk none] := hfr.pick [none] _ rfl
   exact ⟨none, 0, rfl, hev, hmr, hfe, OwnS.nil _ _ _ _⟩
 refine x_u 2 [(15, Vi p1), (16, Vl a_p0 p0 c_p0)] ?_
 refine x_len (vs := [Vl a_p0 p0 c_p0]) (Vi ((p0).length : Int)) rfl rfl rfl (reads_len tsl26 _ _ _ _ _) ?_
 refine x_u 3 [(18, .bool (decide (p1 ≥ ((p0).length : Int)))), (19, .bool (decide (p1 ≥ ((p0).length : Int)))), (20, .bool (decide (p1 ≥ ((p0).length : Int))))] ?_
 refine x_if 20 (decide (p1 ≥ ((p0).length : Int))) rfl h (fun h => ?_) (fun h => ?_)
 · refine x_u 14 [(21, undef), (22, undef), (23, .bool true), (24, .bool true), (25, undef), (26, undef), (27, undef), (28, undef), (29, .bool true), (30, .bool true), (31, undef), (32, undef), (33, undef), (34, .bool true)] ?_
   refine x_ek ?_
   refine c_norm [(0, Vl a_p0 p0 c_p0), (1, Vi p1), (2, Vi p2), (3, Vi p3), (34, .bool true)] ⟨rfl, rfl, rfl, rfl, rfl, trivial⟩ (fun J => ?_)
   refine c_true rfl ?_
   refine c_sp ?_
   refine x_u 2 [(8, .slice none 0 0), (9, Vi 2)] ?_
   refine x_ek ?_
   refine c_ret ?_
   refine k_then_ret ?_
   refine r_ret (r_vals [.slice none 0 0, Vi 2] ⟨rfl, rfl, trivial⟩ ?_)
   have hx := some_inj h
   subst hx
   have hmr : MS w [blk none, M] := hms.pick [none, some 0] _ rfl
   have hsu : ∀ x ∈ fl [blk none, M], x ∈ fl [M] := pick_sub [none, some 0] _ rfl
   have hfe : FR w.heap.size [blk none] := hfr.pick [none] _ rfl
   exact ⟨none, 0, rfl, hev, hmr, hfe, OwnS.nil _ _ _ _⟩
 refine x_u 4 [(21, Vi p2), (22, .bool (decide (p2 < 0))), (23, .bool (decide (p2 < 0))), (24, .bool (decide (p2 < 0)))] ?_
 refine x_if 24 (decide (p2 < 0)) rfl h (fun h => ?_) (fun h => ?_)
 · refine x_u 10 [(25, undef), (26, undef), (27, undef), (28, undef), (29, .bool true), (30, .bool true), (31, undef), (32, undef), (33, undef), (34, .bool true)] ?_
   refine x_ek ?_
   refine c_norm [(0, Vl a_p0 p0 c_p0), (1, Vi p1), (2, Vi p2), (3, Vi p3), (34, .bool true)] ⟨rfl, rfl, rfl, rfl, rfl, trivial⟩ (fun J => ?_)
   refine c_true rfl ?_
   refine c_sp ?_
   refine x_u 2 [(8, .slice none 0 0), (9, Vi 2)] ?_
   refine x_ek ?_
   refine c_ret ?_
   refine k_then_ret ?_
   refine r_ret (r_vals [.slice none 0 0, Vi 2] ⟨rfl, rfl, trivial⟩ ?_)
   have hx := some_inj h
   subst hx
   have hmr : MS w [blk none, M] := hms.pick [none, some 0] _ rfl
   have hsu : ∀ x ∈ fl [blk none, M], x ∈ fl [M] := pick_sub [none, some 0] _ rfl
   have hfe : FR w.heap.size [blk none] := hfr.pick [none] _ rfl
   exact ⟨none, 0, rfl, hev, hmr, hfe, OwnS.nil _ _ _ _⟩
 refine x_u 2 [(25, Vi p2), (26, Vl a_p0 p0 c_p0)] ?_
 refine x_len (vs := [Vl a_p0 p0 c_p0]) (Vi ((p0).length : Int)) rfl rfl rfl (reads_len tsl26 _ _ _ _ _) ?_
 refine x_u 3 [(28, .bool (decide (p2 ≥ ((p0).length : Int)))), (29, .bool (decide (p2 ≥ ((p0).length : Int)))), (30, .bool (decide (p2 ≥ ((p0).length : Int))))] ?_
 refine x_if 30 (decide (p2 ≥ ((p0).length : Int))) rfl h (fun h => ?_) (fun h => ?_)
 · refine x_u 4 [(31, undef), (32, undef), (33, undef), (34, .bool true)] ?_
   refine x_ek ?_
   refine c_norm [(0, Vl a_p0 p0 c_p0), (1, Vi p1), (2, Vi p2), (3, Vi p3), (34, .bool true)] ⟨rfl, rfl, rfl, rfl, rfl, trivial⟩ (fun J => ?_)
   refine c_true rfl ?_
   refine c_sp ?_
   refine x_u 2 [(8, .slice none 0 0), (9, Vi 2)] ?_
   refine x_ek ?_
   refine c_ret ?_
   refine k_then_ret ?_
   refine r_ret (r_vals [.slice none 0 0, Vi 2] ⟨rfl, rfl, trivial⟩ ?_)
   have hx := some_inj h
   subst hx
   have hmr : MS w [blk none, M] := hms.pick [none, some 0] _ rfl
   have hsu : ∀ x ∈ fl [blk none, M], x ∈ fl [M] := pick_sub [none, some 0] _ rfl
   have hfe : FR w.heap.size [blk none] := hfr.pick [none] _ rfl
   exact ⟨none, 0, rfl, hev, hmr, hfe, OwnS.nil _ _ _ _⟩
 refine x_u 4 [(31, Vi p1), (32, Vi p2), (33, .bool (p1 == p2)), (34, .bool (p1 == p2))] ?_
 refine x_ek ?_
 refine c_norm [(0, Vl a_p0 p0 c_p0), (1, Vi p1), (2, Vi p2), (3, Vi p3), (34, .bool (p1 == p2))] ⟨rfl, rfl, rfl, rfl, rfl, trivial⟩ (fun J => ?_)
 refine c_if (p1 == p2) rfl h (fun h => ?_) (fun h => ?_)
 · refine c_sp ?_
   refine x_u 2 [(8, .slice none 0 0), (9, Vi 2)] ?_
   refine x_ek ?_
   refine c_ret ?_
   refine k_then_ret ?_
   refine r_ret (r_vals [.slice none 0 0, Vi 2] ⟨rfl, rfl, trivial⟩ ?_)
   have hx := some_inj h
   subst hx
   have hmr : MS w [blk none, M] := hms.pick [none, some 0] _ rfl
   have hsu : ∀ x ∈ fl [blk none, M], x ∈ fl [M] := pick_sub [none, some 0] _ rfl
   have hfe : FR w.heap.size [blk none] := hfr.pick [none] _ rfl
   exact ⟨none, 0, rfl, hev, hmr, hfe, OwnS.nil _ _ _ _⟩
 refine c_skip ?_
 refine k_then ?_
 refine c_seq ?_
 refine c_sp ?_
 refine x_u 3 [(35, Vi p3), (36, .bool (decide (p3 < 0))), (37, .bool (decide (p3 < 0)))] ?_
 refine x_if 37 (decide (p3 < 0)) rfl h (fun h => ?_) (fun h => ?_)
 · refine x_u 8 [(38, undef), (39, undef), (40, undef), (41, undef), (42, undef), (43, undef), (44, undef), (45, .bool true)] ?_
   refine x_ek ?_
   refine c_true rfl ?_
   refine c_sp ?_
   refine x_u 2 [(8, .slice none 0 0), (9, Vi 13)] ?_
   refine x_ek ?_
   refine c_norm [(8, .slice none 0 0), (9, Vi 13)] ⟨rfl, rfl, trivial⟩ (fun J => ?_)
   refine c_ret ?_
   refine k_then_ret ?_
   refine r_ret (r_vals [.slice none 0 0, Vi 13] ⟨rfl, rfl, trivial⟩ ?_)
   have hx := some_inj h
   subst hx
   have hmr : MS w [blk none, M] := hms.pick [none, some 0] _ rfl
   have hsu : ∀ x ∈ fl [blk none, M], x ∈ fl [M] := pick_sub [none, some 0] _ rfl
   have hfe : FR w.heap.size [blk none] := hfr.pick [none] _ rfl
   exact ⟨none, 0, rfl, hev, hmr, hfe, OwnS.nil _ _ _ _⟩
 refine x_u 3 [(38, Vi p3), (39, Vl a_p0 p0 c_p0), (40, Vi p1)] ?_
 obtain ⟨x4, hx4, h⟩ := bind_some h
 obtain ⟨ad4, cs4, hr4, hc4, hR⟩ := reads_index (Mo := []) tsl26 hs_p0 hx4
 obtain ⟨a5, c5, rfl, hs5⟩ := hR
 refine x_indexAddr (xv := Vl a_p0 p0 c_p0) (yv := Vi p1) (.pointer (some ad4)) rfl rfl rfl rfl hr4 ?_
 refine x_load (xv := .pointer (some ad4)) (Vl a5 x4 c5) rfl rfl rfl (reads_cell0 tcell22 hc4 (fun _ h => by cases h)) ?_
 refine x_len (vs := [Vl a5 x4 c5]) (Vi ((x4).length : Int)) rfl rfl rfl (reads_len tsl22 _ _ _ _ _) ?_
 refine x_u 2 [(44, .bool (decide (p3 > ((x4).length : Int)))), (45, .bool (decide (p3 > ((x4).length : Int))))] ?_
 refine x_ek ?_
 refine c_if (decide (p3 > ((x4).length : Int))) rfl h (fun h => ?_) (fun h => ?_)
 · refine c_sp ?_
   refine x_u 2 [(8, .slice none 0 0), (9, Vi 13)] ?_
   refine x_ek ?_
   refine c_norm [(8, .slice none 0 0), (9, Vi 13)] ⟨rfl, rfl, trivial⟩ (fun J => ?_)
   refine c_ret ?_
   refine k_then_ret ?_
   refine r_ret (r_vals [.slice none 0 0, Vi 13] ⟨rfl, rfl, trivial⟩ ?_)
   have hx := some_inj h
   subst hx
   have hmr : MS w [blk none, M] := hms.pick [none, some 0] _ rfl
   have hsu : ∀ x ∈ fl [blk none, M], x ∈ fl [M] := pick_sub [none, some 0] _ rfl
   have hfe : FR w.heap.size [blk none] := hfr.pick [none] _ rfl
   exact ⟨none, 0, rfl, hev, hmr, hfe, OwnS.nil _ _ _ _⟩
 refine c_skip ?_
 refine k_then ?_
 refine c_norm [(0, Vl a_p0 p0 c_p0), (1, Vi p1), (2, Vi p2), (3, Vi p3)] ⟨rfl, rfl, rfl, rfl, trivial⟩ (fun J => ?_)
 refine c_sp ?_
 refine x_u 1 [(10, .slice none 0 0)] ?_
 refine x_ek ?_
 refine c_seq ?_
 refine c_sp ?_
 refine x_u 2 [(46, Vl a_p0 p0 c_p0), (47, Vi p1)] ?_
 obtain ⟨x8, hx8, h⟩ := bind_some h
 obtain ⟨ad8, cs8, hr8, hc8, hR⟩ := reads_index (Mo := []) tsl26 hs_p0 hx8
 obtain ⟨a9, c9, rfl, hs9⟩ := hR
 refine x_indexAddr (xv := Vl a_p0 p0 c_p0) (yv := Vi p1) (.pointer (some ad8)) rfl rfl rfl rfl hr8 ?_
 refine x_load (xv := .pointer (some ad8)) (Vl a9 x8 c9) rfl rfl rfl (reads_cell0 tcell22 hc8 (fun _ h => by cases h)) ?_
 refine x_len (vs := [Vl a9 x8 c9]) (Vi ((x8).length : Int)) rfl rfl rfl (reads_len tsl22 _ _ _ _ _) ?_
 refine x_u 3 [(51, Vi p3), (52, Vi (IntKind.i64.wrap (((x8).length : Int) - p3))), (11, Vi (IntKind.i64.wrap (((x8).length : Int) - p3)))] ?_
 refine x_ek ?_
 refine c_block ?_
 have hst := Stp.push (ls := [M]) (l := blk none) (Ev.refl [] w) (fun _ h => by cases h) (fun _ h => by cases h)
 replace hs_p0 := hs_p0.step hst
 replace hms := hms.push (l := blk none) (Ev.refl [] _) (fun _ h => by cases h)
 replace hfr := hfr.push (l := blk none) (fun _ h => by cases h)
 have ho13 := OwnS.nil (eProd (eInt .i64) (eProd (eInt .i64) (eProd (eInt .i64) eBool))) 30 w (fl [blk none, M])
 obtain ⟨d12, hd12, h12⟩ := bind_some h
 obtain ⟨m12, hd12⟩ := loop_some hd12
 refine c_loop (loop_rule hmx (σ := Nat × (List (Int × Int × Int × Bool)) × Int × Option Addr × Nat) (fun s => match s with | (_, d14_l12, i_s11_l12, a14_l12, c14_l12) => [(0, Vl a_p0 p0 c_p0), (1, Vi p1), (2, Vi p2), (10, Vl a14_l12 d14_l12 c14_l12), (11, Vi i_s11_l12)]) (fun s w' => match s with | (m, d14_l12, i_s11_l12, a14_l12, c14_l12) => loopN (r42_String_L12 p0 p1 p2) m (d14_l12, i_s11_l12) = some d12 ∧ Ev [] w w' ∧ MS w' [blk a14_l12, M] ∧ FR w.heap.size [blk a14_l12] ∧ SlR (eSl (eInt .i64)) w' (fl [blk a14_l12, M]) a_p0 c_p0 p0 ∧ OwnS (eProd (eInt .i64) (eProd (eInt .i64) (eProd (eInt .i64) eBool))) 30 w' (fl [blk a14_l12, M]) a14_l12 c14_l12 d14_l12) (fun s => s.1) (m12, ([] : List (Int × Int × Int × Bool)), IntKind.i64.wrap (((x8).length : Int) - p3), none, 0) ⟨rfl, rfl, rfl, rfl, rfl, trivial⟩ ⟨hd12, hev, hms, hfr, hs_p0, ho13⟩ ?_)
 rintro ⟨m12, d14_l12, i_s11_l12, a14_l12, c14_l12⟩ J wl12 ⟨hn12, hev, hms, hfr, hs_p0, hj14_l12⟩
 rcases m12 with _ | m12
 · exact (loopN_zero hn12).elim
 obtain ⟨t12, h, hn12⟩ := bind_some hn12
 refine c_seq ?_
 refine c_sp ?_
 refine x_u 3 [(53, Vi i_s11_l12), (54, Vl a_p0 p0 c_p0), (55, Vi p1)] ?_
 obtain ⟨x16, hx16, h⟩ := bind_some h
 obtain ⟨ad16, cs16, hr16, hc16, hR⟩ := reads_index (Mo := []) tsl26 hs_p0 hx16
 obtain ⟨a17, c17, rfl, hs17⟩ := hR
 refine x_indexAddr (xv := Vl a_p0 p0 c_p0) (yv := Vi p1) (.pointer (some ad16)) rfl rfl rfl rfl hr16 ?_
 refine x_load (xv := .pointer (some ad16)) (Vl a17 x16 c17) rfl rfl rfl (reads_cell0 tcell22 hc16 (fun _ h => by cases h)) ?_
 refine x_len (vs := [Vl a17 x16 c17]) (Vi ((x16).length : Int)) rfl rfl rfl (reads_len tsl22 _ _ _ _ _) ?_
 refine x_u 1 [(59, .bool (decide (i_s11_l12 < ((x16).length : Int))))] ?_
 refine x_ek ?_
 refine c_norm [(0, Vl a_p0 p0 c_p0), (1, Vi p1), (2, Vi p2), (10, Vl a14_l12 d14_l12 c14_l12), (11, Vi i_s11_l12), (59, .bool (decide (i_s11_l12 < ((x16).length : Int))))] ⟨rfl, rfl, rfl, rfl, rfl, rfl, trivial⟩ (fun J => ?_)
 refine c_if (decide (i_s11_l12 < ((x16).length : Int))) rfl h (fun h => ?_) (fun h => ?_)
 · refine c_skip ?_
   refine k_then ?_
   refine c_seq ?_
   refine c_block ?_
   refine c_plain ?_
   refine x_u 3 [(62, Vl a14_l12 d14_l12 c14_l12), (63, Vl a_p0 p0 c_p0), (64, Vi p1)] ?_
   obtain ⟨x20, hx20, h⟩ := bind_some h
   obtain ⟨ad20, cs20, hr20, hc20, hR⟩ := reads_index (Mo := []) tsl26 hs_p0 hx20
   obtain ⟨a21, c21, rfl, hs21⟩ := hR
   refine x_indexAddr (xv := Vl a_p0 p0 c_p0) (yv := Vi p1) (.pointer (some ad20)) rfl rfl rfl rfl hr20 ?_
   refine x_load (xv := .pointer (some ad20)) (Vl a21 x20 c21) rfl rfl rfl (reads_cell0 tcell22 hc20 (fun _ h => by cases h)) ?_
   refine x_u 1 [(67, Vi i_s11_l12)] ?_
   obtain ⟨x24, hx24, h⟩ := bind_some h
   obtain ⟨ad24, cs24, hr24, hc24, hR⟩ := reads_index (Mo := []) tsl22 hs21 hx24
   obtain rfl := hR
   refine x_indexAddr (xv := Vl a21 x20 c21) (yv := Vi i_s11_l12) (.pointer (some ad24)) rfl rfl rfl rfl hr24 ?_
   refine x_load (xv := .pointer (some ad24)) (Vi x24) rfl rfl rfl (reads_cell0 tcell3 hc24 (fun _ h => by cases h)) ?_
   refine x_u 2 [(70, Vi p1), (71, Vi p2)] ?_
   refine x_build (vs := [(0, Vi x24), (1, Vi p1), (2, Vi p2)]) (.agg #[Vi x24, Vi p1, Vi p2, .bool false]) rfl rfl rfl (fun _ _ => by kernel_rfl) ?_
   refine x_buildSlice (vs := [(0, .agg #[Vi x24, Vi p1, Vi p2, .bool false])]) #[Vi x24, Vi p1, Vi p2, .bool false] 30 rfl rfl rfl (by kernel_rfl) (fun b26 w26 hq26 hb26 he26 hz26 => ?_)
   refine inl1 ?_
   have hms0 := hms
   have hst := Stp.ext (ls := [blk a14_l12, M]) he26
   replace hs_p0 := hs_p0.step hst
   replace hj14_l12 := hj14_l12.step hst he26 nn2
   replace hs21 := hs21.step hst
   replace hc20 := hc20.step hst
   replace hc24 := hc24.step hst
   replace hms := hms.ev he26
   replace hev := hev.ext he26
   have hs26 : SlR (eProd (eInt .i64) (eProd (eInt .i64) (eProd (eInt .i64) eBool))) w26 (fl [blk a14_l12, M]) (Ad b26 0) 1 ([(x24, p1, p2, false)] : List (Int × Int × Int × Bool)) := ro_of_box hms0 hq26 hb26 rfl rfl (cells_at (cs := [Vi x24, Vi p1, Vi p2, .bool false]) (CellsOf.cons (c := [Vi x24, Vi p1, Vi p2, .bool false]) ⟨[Vi x24], [Vi p1, Vi p2, .bool false], rfl, rfl, ⟨[Vi p1], [Vi p2, .bool false], rfl, rfl, ⟨[Vi p2], [.bool false], rfl, rfl, rfl⟩⟩⟩ CellsOf.nil))
   clear hb26 hms0
   have hg := guard_l h
   replace h := guard_r h
   obtain ⟨a28, c28, w28, hr28, he28, hn28, hm28, hw28⟩ := own_appendN tel41 41 hj14_l12 (mem_flat 0 rfl) hs26 hg
   refine x_builtin (vs := [Vl a14_l12 d14_l12 c14_l12, .slice (Ad b26 0) (([(x24, p1, p2, false)] : List (Int × Int × Int × Bool))).length 1]) _ w28 rfl rfl rfl rfl (run_value _ _ _ _ hr28) ?_
   refine inl1 ?_
   have hst : Stp (fl [blk a14_l12, M]) w26 (fl [blk a28, M]) w28 := Stp.upd 0 he28 rfl (fun b hb => (hn28 b hb).1)
   replace hs_p0 := hs_p0.step hst
   replace hs21 := hs21.step hst
   replace hc20 := hc20.step hst
   replace hc24 := hc24.step hst
   replace hs26 := hs26.step hst
   replace hms : MS w28 [blk a28, M] := hms.upd 0 he28 rfl hn28
   have hfr2 : FR w.heap.size [blk a28] := hfr.upd 0 rfl hev.size (fun b hb => (hn28 b hb).1)
   replace hev := hev.then he28 (fun b hb => .inr (hfr.at 0 rfl b hb))
   replace hfr := hfr2
   clear hfr2
   replace hj14_l12 := hw28 (fl [blk a28, M]) hst.new
   clear hw28
   refine x_u 1 [(10, .slice a28 ((d14_l12 ++ ([(x24, p1, p2, false)] : List (Int × Int × Int × Bool)))).length c28)] ?_
   refine x_end rfl ?_
   refine k_block ?_
   refine k_then ?_
   refine c_norm [(0, Vl a_p0 p0 c_p0), (1, Vi p1), (2, Vi p2), (10, .slice a28 ((d14_l12 ++ ([(x24, p1, p2, false)] : List (Int × Int × Int × Bool)))).length c28), (11, Vi i_s11_l12)] ⟨rfl, rfl, rfl, rfl, rfl, trivial⟩ (fun J => ?_)
   refine c_plain ?_
   refine x_u 3 [(60, Vi i_s11_l12), (61, Vi (IntKind.i64.wrap (i_s11_l12 + 1))), (11, Vi (IntKind.i64.wrap (i_s11_l12 + 1)))] ?_
   refine x_end rfl ?_
   have hx := some_inj h
   subst hx
   exact k_then ⟨(m12, (d14_l12 ++ ([(x24, p1, p2, false)] : List (Int × Int × Int × Bool))), IntKind.i64.wrap (i_s11_l12 + 1), a28, c28), ⟨rfl, rfl, rfl, rfl, rfl, trivial⟩, ⟨hn12, hev, hms, hfr, hs_p0, hj14_l12⟩, Nat.lt_succ_self _⟩
 refine c_exit ?_
 refine k_then_exit ?_
 have hx := some_inj h
 subst hx
 have hy := some_inj hn12
 subst hy
 replace h := h12
 refine k_then_exit ?_
 refine k_block_in ?_
 refine k_then ?_
 refine c_norm [(10, Vl a14_l12 d14_l12 c14_l12)] ⟨rfl, trivial⟩ (fun J => ?_)
 refine c_sp ?_
 refine x_u 3 [(75, Vl a14_l12 d14_l12 c14_l12), (8, Vl a14_l12 d14_l12 c14_l12), (9, Vi 0)] ?_
 refine x_ek ?_
 refine c_ret ?_
 refine r_ret (r_vals [Vl a14_l12 d14_l12 c14_l12, Vi 0] ⟨rfl, rfl, trivial⟩ ?_)
 have hx := some_inj h
 subst hx
 have hmr : MS wl12 [blk a14_l12, M] := hms.pick [some 0, some 1] _ rfl
 have hsu : ∀ x ∈ fl [blk a14_l12, M], x ∈ fl [blk a14_l12, M] := pick_sub [some 0, some 1] _ rfl
 have hfe : FR w.heap.size [blk a14_l12] := hfr.pick [some 0] _ rfl
 exact ⟨a14_l12, c14_l12, rfl, hev, hmr, hfe, hj14_l12.sub hsu⟩
end Go.Proofs.Ytgeceohdppecgaa
