/- Walks, printed by program: each function returns what the partial function of the same name returns. Conditions: those of each theorem. -/
import Derived.Test.YtdbomhhcebmkpaaGT
set_option linter.unusedVariables false
set_option linter.unusedSimpArgs false
set_option maxRecDepth 4000
namespace Go.Proofs.Ytdbomhhcebmkpaa
open Go Go.V Go.Proofs
def r16_valid_L11 (p1 : List Int) (s : Int) : Option (Step Int (Unit ⊕ Unit)) :=
match s with
| i_s6_l11 =>
(if (decide (i_s6_l11 < ((p1).length : Int))) = true then
((idx p1 i_s6_l11).bind fun x13 =>
(if (decide (x13 < 1)) = true then
some (.done (.inl ()))
else
((idx p1 i_s6_l11).bind fun x15 =>
(if (decide (x15 > 38400)) = true then
some (.done (.inl ()))
else
some (.next (IntKind.i64.wrap (i_s6_l11 + 1)))))))
else
some (.done (.inr ())))

def r16_valid_L5 (p0 : List Int) (s : Int) : Option (Step Int (Unit ⊕ Unit)) :=
match s with
| i_s5_l5 =>
(if (decide (i_s5_l5 < ((p0).length : Int))) = true then
((idx p0 i_s5_l5).bind fun x7 =>
(if (decide (x7 < 0)) = true then
some (.done (.inl ()))
else
((idx p0 i_s5_l5).bind fun x9 =>
(if (decide (x9 > 38400)) = true then
some (.done (.inl ()))
else
some (.next (IntKind.i64.wrap (i_s5_l5 + 1)))))))
else
some (.done (.inr ())))

def r16_valid (p0 : List Int) (p1 : List Int) : Option Int :=
(if (decide (((p0).length : Int) > 32)) = true then
some 3
else
(if (decide (((p1).length : Int) > 32)) = true then
some 3
else
((loop (r16_valid_L5 p0) 0).bind fun d => match d with
| (.inl _) => some 2
| (.inr _) => ((loop (r16_valid_L11 p1) 0).bind fun d => match d with
| (.inl _) => some 2
| (.inr _) => some 0))))

theorem r16_valid_w (a_p0 : Option Addr) (c_p0 : Nat) (p0 : List Int) (a_p1 : Option Addr) (c_p1 : Nat) (p1 : List Int) (r : Int) (w : World) (M : List Nat) (hms : MS w [M]) (hs_p0 : SlR (eInt .i64) w (fl [M]) a_p0 c_p0 p0) (hs_p1 : SlR (eInt .i64) w (fl [M]) a_p1 c_p1 p1) (h : r16_valid p0 p1 = some r) : CallVC Try.prog 26 [.slice a_p0 (p0).length c_p0, .slice a_p1 (p1).length c_p1] w fun v w' => v = Vi r ∧ Ev [] w w' := by
 refine calls_vc hmx Try.func26 (by kernel_rfl) rfl (rs := [.tmp 4]) rfl (by kernel_rfl) (args := [.slice a_p0 (p0).length c_p0, .slice a_p1 (p1).length c_p1]) rfl ?_
 have hev : Ev [] w w := Ev.refl _ _
 have hfr : FR w.heap.size [] := FR.nil _
 refine c_sp ?_
 refine x_pure 1 [(4, Vi 0)] _ _ _ (by kernel_rfl) ?_
 refine x_ek ?_
 refine c_seq ?_
 refine c_sp ?_
 refine x_pure 1 [(7, .slice a_p0 (p0).length c_p0)] _ _ _ (by kernel_rfl) ?_
 refine x_len (vs := [.slice a_p0 (p0).length c_p0]) (Vi ((p0).length : Int)) rfl rfl rfl (reads_len tsl22 _ _ _ _ _) ?_
 refine x_pure 2 [(9, .bool (decide (((p0).length : Int) > 32))), (10, .bool (decide (((p0).length : Int) > 32)))] _ _ _ (by kernel_rfl) ?_
 refine x_split 10 (decide (((p0).length : Int) > 32)) rfl (fun hb => ?_) (fun hb => ?_)
 · replace h := ite_t hb h
   refine x_pure 4 [(11, undef), (12, undef), (13, undef), (14, .bool true)] _ _ _ (by kernel_rfl) ?_
   refine x_ek ?_
   refine c_true rfl ?_
   refine c_sp ?_
   refine x_pure 1 [(4, Vi 3)] _ _ _ (by kernel_rfl) ?_
   refine x_ek ?_
   refine c_ret ?_
   refine k_then_ret ?_
   refine r_ret (r_vals [Vi 3] ⟨rfl, trivial⟩ ?_)
   have hx := some_inj h
   subst hx
   have hmr : MS w [M] := hms.pick [some 0] _ rfl
   have hsu : ∀ x ∈ fl [M], x ∈ fl [M] := pick_sub [some 0] _ rfl
   exact ⟨rfl, hev⟩
 replace h := ite_f hb h
 refine x_pure 1 [(11, .slice a_p1 (p1).length c_p1)] _ _ _ (by kernel_rfl) ?_
 refine x_len (vs := [.slice a_p1 (p1).length c_p1]) (Vi ((p1).length : Int)) rfl rfl rfl (reads_len tsl22 _ _ _ _ _) ?_
 refine x_pure 2 [(13, .bool (decide (((p1).length : Int) > 32))), (14, .bool (decide (((p1).length : Int) > 32)))] _ _ _ (by kernel_rfl) ?_
 refine x_ek ?_
 refine c_cond (decide (((p1).length : Int) > 32)) rfl (fun hb => ?_) (fun hb => ?_)
 · replace h := ite_t hb h
   refine c_sp ?_
   refine x_pure 1 [(4, Vi 3)] _ _ _ (by kernel_rfl) ?_
   refine x_ek ?_
   refine c_ret ?_
   refine k_then_ret ?_
   refine r_ret (r_vals [Vi 3] ⟨rfl, trivial⟩ ?_)
   have hx := some_inj h
   subst hx
   have hmr : MS w [M] := hms.pick [some 0] _ rfl
   have hsu : ∀ x ∈ fl [M], x ∈ fl [M] := pick_sub [some 0] _ rfl
   exact ⟨rfl, hev⟩
 replace h := ite_f hb h
 refine c_skip ?_
 refine k_then ?_
 refine c_seq ?_
 refine c_sp ?_
 refine x_pure 1 [(5, Vi 0)] _ _ _ (by kernel_rfl) ?_
 refine x_ek ?_
 refine c_block ?_
 obtain ⟨d5, hd5, h5⟩ := bind_some h
 obtain ⟨m5, hd5⟩ := loop_some hd5
 refine c_loop (loop_rule hmx (σ := Nat × Int) (fun s => match s with | (_, i_s5_l5) => [(0, .slice a_p0 (p0).length c_p0), (1, .slice a_p1 (p1).length c_p1), (5, Vi i_s5_l5)]) (fun s w' => match s with | (m, i_s5_l5) => loopN (r16_valid_L5 p0) m i_s5_l5 = some d5 ∧ Ev [] w w' ∧ MS w' [M] ∧ FR w.heap.size [] ∧ SlR (eInt .i64) w' (fl [M]) a_p0 c_p0 p0 ∧ SlR (eInt .i64) w' (fl [M]) a_p1 c_p1 p1) (fun s => s.1) (m5, 0) ⟨rfl, rfl, rfl, trivial⟩ ⟨hd5, hev, hms, hfr, hs_p0, hs_p1⟩ ?_)
 rintro ⟨m5, i_s5_l5⟩ J wl5 ⟨hn5, hev, hms, hfr, hs_p0, hs_p1⟩
 rcases m5 with _ | m5
 · exact (loopN_zero hn5).elim
 obtain ⟨t5, h, hn5⟩ := bind_some hn5
 refine c_seq ?_
 refine c_sp ?_
 refine x_pure 2 [(15, Vi i_s5_l5), (16, .slice a_p0 (p0).length c_p0)] _ _ _ (by kernel_rfl) ?_
 refine x_len (vs := [.slice a_p0 (p0).length c_p0]) (Vi ((p0).length : Int)) rfl rfl rfl (reads_len tsl22 _ _ _ _ _) ?_
 refine x_pure 1 [(18, .bool (decide (i_s5_l5 < ((p0).length : Int))))] _ _ _ (by kernel_rfl) ?_
 refine x_ek ?_
 refine c_norm [(0, .slice a_p0 (p0).length c_p0), (1, .slice a_p1 (p1).length c_p1), (5, Vi i_s5_l5), (18, .bool (decide (i_s5_l5 < ((p0).length : Int))))] ⟨rfl, rfl, rfl, rfl, trivial⟩ (fun J => ?_)
 refine c_cond (decide (i_s5_l5 < ((p0).length : Int))) rfl (fun hb => ?_) (fun hb => ?_)
 · replace h := ite_t hb h
   refine c_skip ?_
   refine k_then ?_
   refine c_seq ?_
   refine c_block ?_
   refine c_sp ?_
   refine x_pure 2 [(21, .slice a_p0 (p0).length c_p0), (22, Vi i_s5_l5)] _ _ _ (by kernel_rfl) ?_
   obtain ⟨x7, hx7, h⟩ := bind_some h
   obtain ⟨ad7, cs7, hr7, hc7, hR⟩ := reads_index (Mo := []) tsl22 hs_p0 hx7
   obtain rfl := hR
   refine x_indexAddr (xv := .slice a_p0 (p0).length c_p0) (yv := Vi i_s5_l5) (.pointer (some ad7)) rfl rfl rfl rfl hr7 ?_
   refine x_load (xv := .pointer (some ad7)) (Vi x7) rfl rfl rfl (reads_cell0 tcell3 hc7 (fun _ h => by cases h)) ?_
   refine x_pure 2 [(25, .bool (decide (x7 < 0))), (26, .bool (decide (x7 < 0)))] _ _ _ (by kernel_rfl) ?_
   refine x_split 26 (decide (x7 < 0)) rfl (fun hb => ?_) (fun hb => ?_)
   · replace h := ite_t hb h
     refine x_pure 6 [(27, undef), (28, undef), (29, undef), (30, undef), (31, undef), (32, .bool true)] _ _ _ (by kernel_rfl) ?_
     refine x_ek ?_
     refine c_norm [(0, .slice a_p0 (p0).length c_p0), (1, .slice a_p1 (p1).length c_p1), (5, Vi i_s5_l5), (32, .bool true)] ⟨rfl, rfl, rfl, rfl, trivial⟩ (fun J => ?_)
     refine c_true rfl ?_
     refine c_sp ?_
     refine x_pure 1 [(4, Vi 2)] _ _ _ (by kernel_rfl) ?_
     refine x_ek ?_
     refine c_ret ?_
     refine k_block_ret ?_
     refine k_then_ret ?_
     have hx := some_inj h
     subst hx
     have hy := some_inj hn5
     subst hy
     replace h := h5
     refine k_then_ret ?_
     refine k_block_ret ?_
     refine k_then_ret ?_
     refine r_ret (r_vals [Vi 2] ⟨rfl, trivial⟩ ?_)
     have hx := some_inj h
     subst hx
     have hmr : MS wl5 [M] := hms.pick [some 0] _ rfl
     have hsu : ∀ x ∈ fl [M], x ∈ fl [M] := pick_sub [some 0] _ rfl
     exact ⟨rfl, hev⟩
   replace h := ite_f hb h
   refine x_pure 2 [(27, .slice a_p0 (p0).length c_p0), (28, Vi i_s5_l5)] _ _ _ (by kernel_rfl) ?_
   obtain ⟨x9, hx9, h⟩ := bind_some h
   obtain ⟨ad9, cs9, hr9, hc9, hR⟩ := reads_index (Mo := []) tsl22 hs_p0 hx9
   obtain rfl := hR
   refine x_indexAddr (xv := .slice a_p0 (p0).length c_p0) (yv := Vi i_s5_l5) (.pointer (some ad9)) rfl rfl rfl rfl hr9 ?_
   refine x_load (xv := .pointer (some ad9)) (Vi x9) rfl rfl rfl (reads_cell0 tcell3 hc9 (fun _ h => by cases h)) ?_
   refine x_pure 2 [(31, .bool (decide (x9 > 38400))), (32, .bool (decide (x9 > 38400)))] _ _ _ (by kernel_rfl) ?_
   refine x_ek ?_
   refine c_norm [(0, .slice a_p0 (p0).length c_p0), (1, .slice a_p1 (p1).length c_p1), (5, Vi i_s5_l5), (32, .bool (decide (x9 > 38400)))] ⟨rfl, rfl, rfl, rfl, trivial⟩ (fun J => ?_)
   refine c_cond (decide (x9 > 38400)) rfl (fun hb => ?_) (fun hb => ?_)
   · replace h := ite_t hb h
     refine c_sp ?_
     refine x_pure 1 [(4, Vi 2)] _ _ _ (by kernel_rfl) ?_
     refine x_ek ?_
     refine c_ret ?_
     refine k_block_ret ?_
     refine k_then_ret ?_
     have hx := some_inj h
     subst hx
     have hy := some_inj hn5
     subst hy
     replace h := h5
     refine k_then_ret ?_
     refine k_block_ret ?_
     refine k_then_ret ?_
     refine r_ret (r_vals [Vi 2] ⟨rfl, trivial⟩ ?_)
     have hx := some_inj h
     subst hx
     have hmr : MS wl5 [M] := hms.pick [some 0] _ rfl
     have hsu : ∀ x ∈ fl [M], x ∈ fl [M] := pick_sub [some 0] _ rfl
     exact ⟨rfl, hev⟩
   replace h := ite_f hb h
   refine c_skip ?_
   refine k_block ?_
   refine k_then ?_
   refine c_plain ?_
   refine x_pure 3 [(19, Vi i_s5_l5), (20, Vi (IntKind.i64.wrap (i_s5_l5 + 1))), (5, Vi (IntKind.i64.wrap (i_s5_l5 + 1)))] _ _ _ (by kernel_rfl) ?_
   refine x_end rfl ?_
   have hx := some_inj h
   subst hx
   exact k_then ⟨(m5, IntKind.i64.wrap (i_s5_l5 + 1)), ⟨rfl, rfl, rfl, trivial⟩, ⟨hn5, hev, hms, hfr, hs_p0, hs_p1⟩, Nat.lt_succ_self _⟩
 replace h := ite_f hb h
 refine c_exit ?_
 refine k_then_exit ?_
 have hx := some_inj h
 subst hx
 have hy := some_inj hn5
 subst hy
 replace h := h5
 refine k_then_exit ?_
 refine k_block_in ?_
 refine k_then ?_
 refine c_norm [(1, .slice a_p1 (p1).length c_p1)] ⟨rfl, trivial⟩ (fun J => ?_)
 refine c_seq ?_
 refine c_sp ?_
 refine x_pure 1 [(6, Vi 0)] _ _ _ (by kernel_rfl) ?_
 refine x_ek ?_
 refine c_block ?_
 obtain ⟨d11, hd11, h11⟩ := bind_some h
 obtain ⟨m11, hd11⟩ := loop_some hd11
 refine c_loop (loop_rule hmx (σ := Nat × Int) (fun s => match s with | (_, i_s6_l11) => [(1, .slice a_p1 (p1).length c_p1), (6, Vi i_s6_l11)]) (fun s w' => match s with | (m, i_s6_l11) => loopN (r16_valid_L11 p1) m i_s6_l11 = some d11 ∧ Ev [] w w' ∧ MS w' [M] ∧ FR w.heap.size [] ∧ SlR (eInt .i64) w' (fl [M]) a_p1 c_p1 p1) (fun s => s.1) (m11, 0) ⟨rfl, rfl, trivial⟩ ⟨hd11, hev, hms, hfr, hs_p1⟩ ?_)
 rintro ⟨m11, i_s6_l11⟩ J wl11 ⟨hn11, hev, hms, hfr, hs_p1⟩
 rcases m11 with _ | m11
 · exact (loopN_zero hn11).elim
 obtain ⟨t11, h, hn11⟩ := bind_some hn11
 refine c_seq ?_
 refine c_sp ?_
 refine x_pure 2 [(33, Vi i_s6_l11), (34, .slice a_p1 (p1).length c_p1)] _ _ _ (by kernel_rfl) ?_
 refine x_len (vs := [.slice a_p1 (p1).length c_p1]) (Vi ((p1).length : Int)) rfl rfl rfl (reads_len tsl22 _ _ _ _ _) ?_
 refine x_pure 1 [(36, .bool (decide (i_s6_l11 < ((p1).length : Int))))] _ _ _ (by kernel_rfl) ?_
 refine x_ek ?_
 refine c_norm [(1, .slice a_p1 (p1).length c_p1), (6, Vi i_s6_l11), (36, .bool (decide (i_s6_l11 < ((p1).length : Int))))] ⟨rfl, rfl, rfl, trivial⟩ (fun J => ?_)
 refine c_cond (decide (i_s6_l11 < ((p1).length : Int))) rfl (fun hb => ?_) (fun hb => ?_)
 · replace h := ite_t hb h
   refine c_skip ?_
   refine k_then ?_
   refine c_seq ?_
   refine c_block ?_
   refine c_sp ?_
   refine x_pure 2 [(39, .slice a_p1 (p1).length c_p1), (40, Vi i_s6_l11)] _ _ _ (by kernel_rfl) ?_
   obtain ⟨x13, hx13, h⟩ := bind_some h
   obtain ⟨ad13, cs13, hr13, hc13, hR⟩ := reads_index (Mo := []) tsl22 hs_p1 hx13
   obtain rfl := hR
   refine x_indexAddr (xv := .slice a_p1 (p1).length c_p1) (yv := Vi i_s6_l11) (.pointer (some ad13)) rfl rfl rfl rfl hr13 ?_
   refine x_load (xv := .pointer (some ad13)) (Vi x13) rfl rfl rfl (reads_cell0 tcell3 hc13 (fun _ h => by cases h)) ?_
   refine x_pure 2 [(43, .bool (decide (x13 < 1))), (44, .bool (decide (x13 < 1)))] _ _ _ (by kernel_rfl) ?_
   refine x_split 44 (decide (x13 < 1)) rfl (fun hb => ?_) (fun hb => ?_)
   · replace h := ite_t hb h
     refine x_pure 6 [(45, undef), (46, undef), (47, undef), (48, undef), (49, undef), (50, .bool true)] _ _ _ (by kernel_rfl) ?_
     refine x_ek ?_
     refine c_norm [(1, .slice a_p1 (p1).length c_p1), (6, Vi i_s6_l11), (50, .bool true)] ⟨rfl, rfl, rfl, trivial⟩ (fun J => ?_)
     refine c_true rfl ?_
     refine c_sp ?_
     refine x_pure 1 [(4, Vi 2)] _ _ _ (by kernel_rfl) ?_
     refine x_ek ?_
     refine c_ret ?_
     refine k_block_ret ?_
     refine k_then_ret ?_
     have hx := some_inj h
     subst hx
     have hy := some_inj hn11
     subst hy
     replace h := h11
     refine k_then_ret ?_
     refine k_block_ret ?_
     refine k_then_ret ?_
     refine r_ret (r_vals [Vi 2] ⟨rfl, trivial⟩ ?_)
     have hx := some_inj h
     subst hx
     have hmr : MS wl11 [M] := hms.pick [some 0] _ rfl
     have hsu : ∀ x ∈ fl [M], x ∈ fl [M] := pick_sub [some 0] _ rfl
     exact ⟨rfl, hev⟩
   replace h := ite_f hb h
   refine x_pure 2 [(45, .slice a_p1 (p1).length c_p1), (46, Vi i_s6_l11)] _ _ _ (by kernel_rfl) ?_
   obtain ⟨x15, hx15, h⟩ := bind_some h
   obtain ⟨ad15, cs15, hr15, hc15, hR⟩ := reads_index (Mo := []) tsl22 hs_p1 hx15
   obtain rfl := hR
   refine x_indexAddr (xv := .slice a_p1 (p1).length c_p1) (yv := Vi i_s6_l11) (.pointer (some ad15)) rfl rfl rfl rfl hr15 ?_
   refine x_load (xv := .pointer (some ad15)) (Vi x15) rfl rfl rfl (reads_cell0 tcell3 hc15 (fun _ h => by cases h)) ?_
   refine x_pure 2 [(49, .bool (decide (x15 > 38400))), (50, .bool (decide (x15 > 38400)))] _ _ _ (by kernel_rfl) ?_
   refine x_ek ?_
   refine c_norm [(1, .slice a_p1 (p1).length c_p1), (6, Vi i_s6_l11), (50, .bool (decide (x15 > 38400)))] ⟨rfl, rfl, rfl, trivial⟩ (fun J => ?_)
   refine c_cond (decide (x15 > 38400)) rfl (fun hb => ?_) (fun hb => ?_)
   · replace h := ite_t hb h
     refine c_sp ?_
     refine x_pure 1 [(4, Vi 2)] _ _ _ (by kernel_rfl) ?_
     refine x_ek ?_
     refine c_ret ?_
     refine k_block_ret ?_
     refine k_then_ret ?_
     have hx := some_inj h
     subst hx
     have hy := some_inj hn11
     subst hy
     replace h := h11
     refine k_then_ret ?_
     refine k_block_ret ?_
     refine k_then_ret ?_
     refine r_ret (r_vals [Vi 2] ⟨rfl, trivial⟩ ?_)
     have hx := some_inj h
     subst hx
     have hmr : MS wl11 [M] := hms.pick [some 0] _ rfl
     have hsu : ∀ x ∈ fl [M], x ∈ fl [M] := pick_sub [some 0] _ rfl
     exact ⟨rfl, hev⟩
   replace h := ite_f hb h
   refine c_skip ?_
   refine k_block ?_
   refine k_then ?_
   refine c_plain ?_
   refine x_pure 3 [(37, Vi i_s6_l11), (38, Vi (IntKind.i64.wrap (i_s6_l11 + 1))), (6, Vi (IntKind.i64.wrap (i_s6_l11 + 1)))] _ _ _ (by kernel_rfl) ?_
   refine x_end rfl ?_
   have hx := some_inj h
   subst hx
   exact k_then ⟨(m11, IntKind.i64.wrap (i_s6_l11 + 1)), ⟨rfl, rfl, trivial⟩, ⟨hn11, hev, hms, hfr, hs_p1⟩, Nat.lt_succ_self _⟩
 replace h := ite_f hb h
 refine c_exit ?_
 refine k_then_exit ?_
 have hx := some_inj h
 subst hx
 have hy := some_inj hn11
 subst hy
 replace h := h11
 refine k_then_exit ?_
 refine k_block_in ?_
 refine k_then ?_
 refine c_norm [] trivial (fun J => ?_)
 refine c_sp ?_
 refine x_pure 1 [(4, Vi 0)] _ _ _ (by kernel_rfl) ?_
 refine x_ek ?_
 refine c_ret ?_
 refine r_ret (r_vals [Vi 0] ⟨rfl, trivial⟩ ?_)
 have hx := some_inj h
 subst hx
 have hmr : MS wl11 [M] := hms.pick [some 0] _ rfl
 have hsu : ∀ x ∈ fl [M], x ∈ fl [M] := pick_sub [some 0] _ rfl
 exact ⟨rfl, hev⟩
def r16_Match_L52 (p0 : List Int) (d18_l19 : List Bool) (next_s12_x21 : Int) (s : (List Int) × Int) : Option (Step ((List Int) × Int) (List Int)) :=
match s with
| (d54_l52, i_s17_l52) =>
(if (decide (i_s17_l52 < ((p0).length : Int))) = true then
((idx (d18_l19.set (Int.toNat next_s12_x21) true) i_s17_l52).bind fun x58 =>
(if x58 = true then
(if d54_l52.length + ([i_s17_l52]).length ≤ 4294967296 then
some (.next ((d54_l52 ++ [i_s17_l52]), IntKind.i64.wrap (i_s17_l52 + 1)))
else none)
else
some (.next (d54_l52, IntKind.i64.wrap (i_s17_l52 + 1)))))
else
some (.done d54_l52))

def r16_Match_L39 (p0 : List Int) (p1 : List Int) (d16_l19 : List Bool) (next_s12_x21 : Int) (s : Int × Int) : Option (Step (Int × Int) Int) :=
match s with
| (best_s14_l39, v_t_s15_l39) =>
(if (decide (v_t_s15_l39 < ((p1).length : Int))) = true then
((idx d16_l19 v_t_s15_l39).bind fun x41 =>
(if (!x41) = true then
((idx p1 v_t_s15_l39).bind fun x44 =>
((idx p0 next_s12_x21).bind fun x46 =>
(if (decide (x44 ≥ x46)) = true then
(if (decide (best_s14_l39 < 0)) = true then
some (.next (v_t_s15_l39, IntKind.i64.wrap (v_t_s15_l39 + 1)))
else
((idx p1 v_t_s15_l39).bind fun x48 =>
((idx p1 best_s14_l39).bind fun x50 =>
(if (decide (x48 < x50)) = true then
some (.next (v_t_s15_l39, IntKind.i64.wrap (v_t_s15_l39 + 1)))
else
some (.next (best_s14_l39, IntKind.i64.wrap (v_t_s15_l39 + 1)))))))
else
some (.next (best_s14_l39, IntKind.i64.wrap (v_t_s15_l39 + 1))))))
else
some (.next (best_s14_l39, IntKind.i64.wrap (v_t_s15_l39 + 1)))))
else
some (.done best_s14_l39))

def r16_Match_L21 (p0 : List Int) (d18_l19 : List Bool) (s : Int × Int) : Option (Step (Int × Int) Int) :=
match s with
| (next_s12_l21, i_s13_l21) =>
(if (decide (i_s13_l21 < ((p0).length : Int))) = true then
((idx p0 i_s13_l21).bind fun x23 =>
(if (decide (x23 > 0)) = true then
((idx d18_l19 i_s13_l21).bind fun x25 =>
(if (!x25) = true then
(if (decide (next_s12_l21 < 0)) = true then
some (.next (i_s13_l21, IntKind.i64.wrap (i_s13_l21 + 1)))
else
((idx p0 i_s13_l21).bind fun x28 =>
((idx p0 next_s12_l21).bind fun x30 =>
(if (decide (x28 > x30)) = true then
some (.next (i_s13_l21, IntKind.i64.wrap (i_s13_l21 + 1)))
else
some (.next (next_s12_l21, IntKind.i64.wrap (i_s13_l21 + 1)))))))
else
some (.next (next_s12_l21, IntKind.i64.wrap (i_s13_l21 + 1)))))
else
some (.next (next_s12_l21, IntKind.i64.wrap (i_s13_l21 + 1)))))
else
some (.done next_s12_l21))

def r16_Match_L19 (p0 : List Int) (p1 : List Int) (s : (List Int) × (List Bool) × (List Bool)) : Option (Step ((List Int) × (List Bool) × (List Bool)) ((List Int) × (List Int) × Int)) :=
match s with
| (d7_l19, d16_l19, d18_l19) =>
((loop (r16_Match_L21 p0 d18_l19) ((-1), 0)).bind fun d => match d with
| next_s12_x21 => (if (decide (next_s12_x21 < 0)) = true then
some (.done (d7_l19, ([] : List Int), 0))
else
((idx d18_l19 next_s12_x21).bind fun x33 =>
((loop (r16_Match_L39 p0 p1 d16_l19 next_s12_x21) ((-1), 0)).bind fun d => match d with
| best_s14_x39 => (if (decide (best_s14_x39 < 0)) = true then
((loop (r16_Match_L52 p0 d18_l19 next_s12_x21) (([] : List Int), 0)).bind fun d => match d with
| d54_x52 => some (.done (([] : List Int), d54_x52, 14)))
else
((idx d16_l19 best_s14_x39).bind fun x64 =>
((idx d7_l19 next_s12_x21).bind fun x69 =>
some (.next ((d7_l19.set (Int.toNat next_s12_x21) best_s14_x39), (d16_l19.set (Int.toNat best_s14_x39) true), (d18_l19.set (Int.toNat next_s12_x21) true))))))))))

def r16_Match_L9 (s : (List Int) × Int) : Option (Step ((List Int) × Int) (List Int)) :=
match s with
| (d7_l9, i_s9_l9) =>
(if (decide (i_s9_l9 < ((d7_l9).length : Int))) = true then
((idx d7_l9 i_s9_l9).bind fun x10 =>
some (.next ((d7_l9.set (Int.toNat i_s9_l9) (-1)), IntKind.i64.wrap (i_s9_l9 + 1))))
else
some (.done d7_l9))

def r16_Match (p0 : List Int) (p1 : List Int) : Option ((List Int) × (List Int) × Int) :=
((r16_valid p0 p1).bind fun x4 =>
(if (x4 != 0) = true then
some ([], [], x4)
else
(if (0 : Int) ≤ ((p0).length : Int) ∧ (((p0).length : Int) : Int) ≤ 4294967296 then
((loop r16_Match_L9 ((List.replicate (Int.toNat ((p0).length : Int)) 0 : List Int), 0)).bind fun d => match d with
| d7_x9 => (if (0 : Int) ≤ ((p1).length : Int) ∧ (((p1).length : Int) : Int) ≤ 4294967296 then
(if (0 : Int) ≤ ((p0).length : Int) ∧ (((p0).length : Int) : Int) ≤ 4294967296 then
((loop (r16_Match_L19 p0 p1) (d7_x9, (List.replicate (Int.toNat ((p1).length : Int)) false : List Bool), (List.replicate (Int.toNat ((p0).length : Int)) false : List Bool))).bind fun d => match d with
| (d7_x19, d77_x19, t6__s6_x19) => some (d7_x19, d77_x19, t6__s6_x19))
else none)
else none))
else none)))

theorem r16_Match_w (a_p0 : Option Addr) (c_p0 : Nat) (p0 : List Int) (a_p1 : Option Addr) (c_p1 : Nat) (p1 : List Int) (r : (List Int) × (List Int) × Int) (w : World) (M : List Nat) (hms : MS w [M]) (hs_p0 : SlR (eInt .i64) w (fl [M]) a_p0 c_p0 p0) (hs_p1 : SlR (eInt .i64) w (fl [M]) a_p1 c_p1 p1) (h : r16_Match p0 p1 = some r) : CallVC Try.prog 14 [.slice a_p0 (p0).length c_p0, .slice a_p1 (p1).length c_p1] w fun v w' => ∃ (a0' : Option Addr), ∃ (c0' : Nat), ∃ (a2' : Option Addr), ∃ (c2' : Nat), v = .tuple #[.slice a0' (r.1).length c0', .slice a2' (r.2.1).length c2', Vi r.2.2] ∧ Ev [] w w' ∧ MS w' [blk a0', blk a2', M] ∧ FR w.heap.size [blk a0', blk a2'] ∧ OwnS (eInt .i64) 3 w' (fl [blk a0', blk a2', M]) a0' c0' r.1 ∧ OwnS (eInt .i64) 3 w' (fl [blk a0', blk a2', M]) a2' c2' r.2.1 := by
 refine calls_vc hmx Try.func14 (by kernel_rfl) rfl (rs := [.tmp 4, .tmp 5, .tmp 6]) rfl (by kernel_rfl) (args := [.slice a_p0 (p0).length c_p0, .slice a_p1 (p1).length c_p1]) rfl ?_
 have hev : Ev [] w w := Ev.refl _ _
 have hfr : FR w.heap.size [] := FR.nil _
 refine c_sp ?_
 refine x_pure 3 [(4, .slice none 0 0), (5, .slice none 0 0), (6, Vi 0)] _ _ _ (by kernel_rfl) ?_
 refine x_ek ?_
 refine c_seq ?_
 refine c_sp ?_
 refine x_pure 2 [(18, .slice a_p0 (p0).length c_p0), (19, .slice a_p1 (p1).length c_p1)] _ _ _ (by kernel_rfl) ?_
 obtain ⟨x4, hx, h⟩ := bind_some h
 have hpk : MS w ([] ++ [M]) := hms.pick [some 0] _ rfl
 have hsb0 : ∀ x ∈ fl ([] ++ [M]), x ∈ fl [M] := pick_sub [some 0] _ rfl
 have hsb : ∀ x ∈ fl ([] ++ [(fl [M])]), x ∈ fl [M] := fun x hx => hsb0 x (fl_unfold x hx)
 have hcall := r16_valid_w a_p0 c_p0 p0 a_p1 c_p1 p1 _ w (fl [M]) (MS.fold (P := []) hpk) (hs_p0.sub hsb) (hs_p1.sub hsb) hx
 refine x_call 26 #[] #[] [.slice a_p0 (p0).length c_p0, .slice a_p1 (p1).length c_p1] _ rfl rfl rfl rfl hcall ?_
 rintro v w5 ⟨rfl, he5⟩
 clear hcall hx
 refine inl1 ?_
 have hst := Stp.ext (ls := [M]) he5
 replace hs_p0 := hs_p0.step hst
 replace hs_p1 := hs_p1.step hst
 replace hms := hms.ev he5
 replace hev := hev.ext he5
 clear hpk hsb hsb0
 refine x_pure 1 [(7, Vi x4)] _ _ _ (by kernel_rfl) ?_
 refine x_ek ?_
 refine c_sp ?_
 refine x_pure 2 [(21, Vi x4), (22, .bool (x4 != 0))] _ _ _ (by kernel_rfl) ?_
 refine x_ek ?_
 refine c_cond (x4 != 0) rfl (fun hb => ?_) (fun hb => ?_)
 · replace h := ite_t hb h
   refine c_sp ?_
   refine x_pure 4 [(23, Vi x4), (4, .slice none 0 0), (5, .slice none 0 0), (6, Vi x4)] _ _ _ (by kernel_rfl) ?_
   refine x_ek ?_
   refine c_norm [(4, .slice none 0 0), (5, .slice none 0 0), (6, Vi x4)] ⟨rfl, rfl, rfl, trivial⟩ (fun J => ?_)
   refine c_ret ?_
   refine k_then_ret ?_
   refine r_ret (r_vals [.slice none 0 0, .slice none 0 0, Vi x4] ⟨rfl, rfl, rfl, trivial⟩ ?_)
   have hx := some_inj h
   subst hx
   have hmr : MS w5 [blk none, blk none, M] := hms.pick [none, none, some 0] _ rfl
   have hsu : ∀ x ∈ fl [blk none, blk none, M], x ∈ fl [M] := pick_sub [none, none, some 0] _ rfl
   have hfe : FR w.heap.size [blk none, blk none] := hfr.pick [none, none] _ rfl
   exact ⟨none, 0, none, 0, rfl, hev, hmr, hfe, OwnS.nil _ _ _ _, OwnS.nil _ _ _ _⟩
 replace h := ite_f hb h
 refine c_skip ?_
 refine k_then ?_
 refine c_sp ?_
 refine x_pure 1 [(24, .slice a_p0 (p0).length c_p0)] _ _ _ (by kernel_rfl) ?_
 refine x_len (vs := [.slice a_p0 (p0).length c_p0]) (Vi ((p0).length : Int)) rfl rfl rfl (reads_len tsl22 _ _ _ _ _) ?_
 have hg := guard_l h
 replace h := guard_r h
 obtain ⟨a6, c6, w6, hr6, he6, hn6, hw6⟩ := own_make (e := (eInt .i64)) tel22 w5 ((p0).length : Int) hg.1 hg.2 0 (fun _ _ => rfl)
 refine x_makeSlice _ w6 (xv := Vi ((p0).length : Int)) (yv := Vi ((p0).length : Int)) rfl rfl rfl rfl hr6 ?_
 refine inl1 ?_
 have hst := Stp.push (ls := [M]) (l := blk a6) he6 (fun _ h => by cases h) (fun b hb => (hn6 b hb).1)
 replace hs_p0 := hs_p0.step hst
 replace hs_p1 := hs_p1.step hst
 replace hms := hms.push he6 hn6
 replace hfr := hfr.push (fun b hb => Nat.le_trans hev.size (hn6 b hb).1)
 replace hev := hev.ext he6
 have ho6 := hw6 (fl [blk a6, M])
 clear hw6
 refine x_pure 1 [(8, .slice a6 ((List.replicate (Int.toNat ((p0).length : Int)) 0 : List Int)).length c6)] _ _ _ (by kernel_rfl) ?_
 refine x_ek ?_
 refine c_norm [(0, .slice a_p0 (p0).length c_p0), (1, .slice a_p1 (p1).length c_p1), (8, .slice a6 ((List.replicate (Int.toNat ((p0).length : Int)) 0 : List Int)).length c6)] ⟨rfl, rfl, rfl, trivial⟩ (fun J => ?_)
 refine c_seq ?_
 refine c_sp ?_
 refine x_pure 1 [(9, Vi 0)] _ _ _ (by kernel_rfl) ?_
 refine x_ek ?_
 refine c_block ?_
 obtain ⟨d9, hd9, h9⟩ := bind_some h
 obtain ⟨m9, hd9⟩ := loop_some hd9
 refine c_loop (loop_rule hmx (σ := Nat × (List Int) × Int) (fun s => match s with | (_, d7_l9, i_s9_l9) => [(0, .slice a_p0 (p0).length c_p0), (1, .slice a_p1 (p1).length c_p1), (8, .slice a6 (d7_l9).length c6), (9, Vi i_s9_l9)]) (fun s w' => match s with | (m, d7_l9, i_s9_l9) => loopN r16_Match_L9 m (d7_l9, i_s9_l9) = some d9 ∧ Ev [] w w' ∧ MS w' [blk a6, M] ∧ FR w.heap.size [blk a6] ∧ SlR (eInt .i64) w' (fl [blk a6, M]) a_p0 c_p0 p0 ∧ SlR (eInt .i64) w' (fl [blk a6, M]) a_p1 c_p1 p1 ∧ OwnS (eInt .i64) 3 w' (fl [blk a6, M]) a6 c6 d7_l9) (fun s => s.1) (m9, (List.replicate (Int.toNat ((p0).length : Int)) 0 : List Int), 0) ⟨rfl, rfl, rfl, rfl, trivial⟩ ⟨hd9, hev, hms, hfr, hs_p0, hs_p1, ho6⟩ ?_)
 rintro ⟨m9, d7_l9, i_s9_l9⟩ J wl9 ⟨hn9, hev, hms, hfr, hs_p0, hs_p1, ho6⟩
 rcases m9 with _ | m9
 · exact (loopN_zero hn9).elim
 obtain ⟨t9, h, hn9⟩ := bind_some hn9
 refine c_seq ?_
 refine c_sp ?_
 refine x_pure 2 [(27, Vi i_s9_l9), (28, .slice a6 (d7_l9).length c6)] _ _ _ (by kernel_rfl) ?_
 refine x_len (vs := [.slice a6 (d7_l9).length c6]) (Vi ((d7_l9).length : Int)) rfl rfl rfl (reads_len tsl22 _ _ _ _ _) ?_
 refine x_pure 1 [(30, .bool (decide (i_s9_l9 < ((d7_l9).length : Int))))] _ _ _ (by kernel_rfl) ?_
 refine x_ek ?_
 refine c_norm [(0, .slice a_p0 (p0).length c_p0), (1, .slice a_p1 (p1).length c_p1), (8, .slice a6 (d7_l9).length c6), (9, Vi i_s9_l9), (30, .bool (decide (i_s9_l9 < ((d7_l9).length : Int))))] ⟨rfl, rfl, rfl, rfl, rfl, trivial⟩ (fun J => ?_)
 refine c_cond (decide (i_s9_l9 < ((d7_l9).length : Int))) rfl (fun hb => ?_) (fun hb => ?_)
 · replace h := ite_t hb h
   refine c_skip ?_
   refine k_then ?_
   refine c_seq ?_
   refine c_block ?_
   refine c_plain ?_
   refine x_pure 2 [(33, .slice a6 (d7_l9).length c6), (34, Vi i_s9_l9)] _ _ _ (by kernel_rfl) ?_
   obtain ⟨x10, hx10, h⟩ := bind_some h
   obtain ⟨g10, cs10, ha10, hr10, hc10, hR⟩ := own_index (Mo := []) tsl22 ho6 hx10
   obtain rfl := hR
   refine x_indexAddr (xv := .slice a6 (d7_l9).length c6) (yv := Vi i_s9_l9) (.pointer (some ⟨g10, (Int.toNat i_s9_l9) * (eInt .i64).n, none⟩)) rfl rfl rfl rfl hr10 ?_
   obtain ⟨w14, hr14, he14, ho14⟩ := own_storeE ha10 (y := (-1)) 0 (Vi (-1)) tcell3 ho6 (mem_flat 0 rfl) hx10 rfl rfl (fun _ _ _ hR => set_int hR)
   refine x_store w14 (xv := .pointer (some ⟨g10, (Int.toNat i_s9_l9) * (eInt .i64).n, none⟩)) (yv := Vi (-1)) rfl rfl rfl rfl hr14 ?_
   refine inl1 ?_
   have hst := Stp.ev' (ls := [blk a6, M]) he14 (mem_flat 0 rfl)
   replace hs_p0 := hs_p0.step hst
   replace hs_p1 := hs_p1.step hst
   replace hms := hms.ev he14
   replace hev := hev.then he14 (fun b hb => .inr (hfr.at 0 rfl b hb))
   replace ho6 := ho14
   have hsl : (Value.slice a6 (d7_l9).length c6) = (Value.slice a6 ((d7_l9.set (Int.toNat i_s9_l9) (-1))).length c6) := by first | (rw [List.length_set]; done) | simp only [List.length_set]
   try rw [hsl]
   clear hsl
   refine x_end rfl ?_
   refine k_block ?_
   refine k_then ?_
   refine c_plain ?_
   refine x_pure 3 [(31, Vi i_s9_l9), (32, Vi (IntKind.i64.wrap (i_s9_l9 + 1))), (9, Vi (IntKind.i64.wrap (i_s9_l9 + 1)))] _ _ _ (by kernel_rfl) ?_
   refine x_end rfl ?_
   have hx := some_inj h
   subst hx
   exact k_then ⟨(m9, (d7_l9.set (Int.toNat i_s9_l9) (-1)), IntKind.i64.wrap (i_s9_l9 + 1)), ⟨rfl, rfl, rfl, rfl, trivial⟩, ⟨hn9, hev, hms, hfr, hs_p0, hs_p1, ho6⟩, Nat.lt_succ_self _⟩
 replace h := ite_f hb h
 refine c_exit ?_
 refine k_then_exit ?_
 have hx := some_inj h
 subst hx
 have hy := some_inj hn9
 subst hy
 replace h := h9
 refine k_then_exit ?_
 refine k_block_in ?_
 refine k_then ?_
 refine c_norm [(0, .slice a_p0 (p0).length c_p0), (1, .slice a_p1 (p1).length c_p1), (8, .slice a6 (d7_l9).length c6)] ⟨rfl, rfl, rfl, trivial⟩ (fun J => ?_)
 refine c_sp ?_
 refine x_pure 1 [(36, .slice a_p1 (p1).length c_p1)] _ _ _ (by kernel_rfl) ?_
 refine x_len (vs := [.slice a_p1 (p1).length c_p1]) (Vi ((p1).length : Int)) rfl rfl rfl (reads_len tsl22 _ _ _ _ _) ?_
 have hg := guard_l h
 replace h := guard_r h
 obtain ⟨a15, c15, w15, hr15, he15, hn15, hw15⟩ := own_make (e := eBool) tel41 wl9 ((p1).length : Int) hg.1 hg.2 false (fun _ _ => rfl)
 refine x_makeSlice _ w15 (xv := Vi ((p1).length : Int)) (yv := Vi ((p1).length : Int)) rfl rfl rfl rfl hr15 ?_
 refine inl1 ?_
 have hst := Stp.push (ls := [blk a6, M]) (l := blk a15) he15 (fun _ h => by cases h) (fun b hb => (hn15 b hb).1)
 replace hs_p0 := hs_p0.step hst
 replace hs_p1 := hs_p1.step hst
 replace ho6 := ho6.step hst he15 nn2
 replace hms := hms.push he15 hn15
 replace hfr := hfr.push (fun b hb => Nat.le_trans hev.size (hn15 b hb).1)
 replace hev := hev.ext he15
 have ho15 := hw15 (fl [blk a15, blk a6, M])
 clear hw15
 refine x_pure 1 [(10, .slice a15 ((List.replicate (Int.toNat ((p1).length : Int)) false : List Bool)).length c15)] _ _ _ (by kernel_rfl) ?_
 refine x_ek ?_
 refine c_sp ?_
 refine x_pure 1 [(39, .slice a_p0 (p0).length c_p0)] _ _ _ (by kernel_rfl) ?_
 refine x_len (vs := [.slice a_p0 (p0).length c_p0]) (Vi ((p0).length : Int)) rfl rfl rfl (reads_len tsl22 _ _ _ _ _) ?_
 have hg := guard_l h
 replace h := guard_r h
 obtain ⟨a17, c17, w17, hr17, he17, hn17, hw17⟩ := own_make (e := eBool) tel41 w15 ((p0).length : Int) hg.1 hg.2 false (fun _ _ => rfl)
 refine x_makeSlice _ w17 (xv := Vi ((p0).length : Int)) (yv := Vi ((p0).length : Int)) rfl rfl rfl rfl hr17 ?_
 refine inl1 ?_
 have hst := Stp.push (ls := [blk a15, blk a6, M]) (l := blk a17) he17 (fun _ h => by cases h) (fun b hb => (hn17 b hb).1)
 replace hs_p0 := hs_p0.step hst
 replace hs_p1 := hs_p1.step hst
 replace ho6 := ho6.step hst he17 nn2
 replace ho15 := ho15.step hst he17 nn2
 replace hms := hms.push he17 hn17
 replace hfr := hfr.push (fun b hb => Nat.le_trans hev.size (hn17 b hb).1)
 replace hev := hev.ext he17
 have ho17 := hw17 (fl [blk a17, blk a15, blk a6, M])
 clear hw17
 refine x_pure 1 [(11, .slice a17 ((List.replicate (Int.toNat ((p0).length : Int)) false : List Bool)).length c17)] _ _ _ (by kernel_rfl) ?_
 refine x_ek ?_
 refine c_block ?_
 have hpk : MS w17 [blk a6, blk a15, blk a17, M] := hms.pick [some 2, some 1, some 0, some 3] _ rfl
 have hsu : ∀ x ∈ fl [blk a6, blk a15, blk a17, M], x ∈ fl [blk a17, blk a15, blk a6, M] := pick_sub [some 2, some 1, some 0, some 3] _ rfl
 replace hs_p0 := hs_p0.sub hsu
 replace hs_p1 := hs_p1.sub hsu
 replace ho6 := ho6.sub hsu
 replace ho15 := ho15.sub hsu
 replace ho17 := ho17.sub hsu
 replace hms := hpk
 replace hfr : FR w.heap.size [blk a6, blk a15, blk a17] := hfr.pick [some 2, some 1, some 0] _ rfl
 clear hpk hsu
 obtain ⟨d19, hd19, h19⟩ := bind_some h
 obtain ⟨m19, hd19⟩ := loop_some hd19
 refine c_loop (loop_rule hmx (σ := Nat × (List Int) × (List Bool) × (List Bool)) (fun s => match s with | (_, d7_l19, d16_l19, d18_l19) => [(0, .slice a_p0 (p0).length c_p0), (1, .slice a_p1 (p1).length c_p1), (8, .slice a6 (d7_l19).length c6), (10, .slice a15 (d16_l19).length c15), (11, .slice a17 (d18_l19).length c17)]) (fun s w' => match s with | (m, d7_l19, d16_l19, d18_l19) => loopN (r16_Match_L19 p0 p1) m (d7_l19, d16_l19, d18_l19) = some d19 ∧ Ev [] w w' ∧ MS w' [blk a6, blk a15, blk a17, M] ∧ FR w.heap.size [blk a6, blk a15, blk a17] ∧ SlR (eInt .i64) w' (fl [blk a6, blk a15, blk a17, M]) a_p0 c_p0 p0 ∧ SlR (eInt .i64) w' (fl [blk a6, blk a15, blk a17, M]) a_p1 c_p1 p1 ∧ OwnS (eInt .i64) 3 w' (fl [blk a6, blk a15, blk a17, M]) a6 c6 d7_l19 ∧ OwnS eBool 4 w' (fl [blk a6, blk a15, blk a17, M]) a15 c15 d16_l19 ∧ OwnS eBool 4 w' (fl [blk a6, blk a15, blk a17, M]) a17 c17 d18_l19) (fun s => s.1) (m19, d7_l9, (List.replicate (Int.toNat ((p1).length : Int)) false : List Bool), (List.replicate (Int.toNat ((p0).length : Int)) false : List Bool)) ⟨rfl, rfl, rfl, rfl, rfl, trivial⟩ ⟨hd19, hev, hms, hfr, hs_p0, hs_p1, ho6, ho15, ho17⟩ ?_)
 rintro ⟨m19, d7_l19, d16_l19, d18_l19⟩ J wl19 ⟨hn19, hev, hms, hfr, hs_p0, hs_p1, ho6, ho15, ho17⟩
 rcases m19 with _ | m19
 · exact (loopN_zero hn19).elim
 obtain ⟨t19, h, hn19⟩ := bind_some hn19
 refine c_block ?_
 refine c_sp ?_
 refine x_pure 1 [(12, Vi (-1))] _ _ _ (by kernel_rfl) ?_
 refine x_ek ?_
 refine c_norm [(0, .slice a_p0 (p0).length c_p0), (1, .slice a_p1 (p1).length c_p1), (8, .slice a6 (d7_l19).length c6), (10, .slice a15 (d16_l19).length c15), (11, .slice a17 (d18_l19).length c17), (12, Vi (-1))] ⟨rfl, rfl, rfl, rfl, rfl, rfl, trivial⟩ (fun J => ?_)
 refine c_seq ?_
 refine c_sp ?_
 refine x_pure 1 [(13, Vi 0)] _ _ _ (by kernel_rfl) ?_
 refine x_ek ?_
 refine c_block ?_
 obtain ⟨d21, hd21, h21⟩ := bind_some h
 obtain ⟨m21, hd21⟩ := loop_some hd21
 refine c_loop (loop_rule hmx (σ := Nat × Int × Int) (fun s => match s with | (_, next_s12_l21, i_s13_l21) => [(0, .slice a_p0 (p0).length c_p0), (1, .slice a_p1 (p1).length c_p1), (8, .slice a6 (d7_l19).length c6), (10, .slice a15 (d16_l19).length c15), (11, .slice a17 (d18_l19).length c17), (12, Vi next_s12_l21), (13, Vi i_s13_l21)]) (fun s w' => match s with | (m, next_s12_l21, i_s13_l21) => loopN (r16_Match_L21 p0 d18_l19) m (next_s12_l21, i_s13_l21) = some d21 ∧ Ev [] w w' ∧ MS w' [blk a6, blk a15, blk a17, M] ∧ FR w.heap.size [blk a6, blk a15, blk a17] ∧ SlR (eInt .i64) w' (fl [blk a6, blk a15, blk a17, M]) a_p0 c_p0 p0 ∧ SlR (eInt .i64) w' (fl [blk a6, blk a15, blk a17, M]) a_p1 c_p1 p1 ∧ OwnS (eInt .i64) 3 w' (fl [blk a6, blk a15, blk a17, M]) a6 c6 d7_l19 ∧ OwnS eBool 4 w' (fl [blk a6, blk a15, blk a17, M]) a15 c15 d16_l19 ∧ OwnS eBool 4 w' (fl [blk a6, blk a15, blk a17, M]) a17 c17 d18_l19) (fun s => s.1) (m21, (-1), 0) ⟨rfl, rfl, rfl, rfl, rfl, rfl, rfl, trivial⟩ ⟨hd21, hev, hms, hfr, hs_p0, hs_p1, ho6, ho15, ho17⟩ ?_)
 rintro ⟨m21, next_s12_l21, i_s13_l21⟩ J wl21 ⟨hn21, hev, hms, hfr, hs_p0, hs_p1, ho6, ho15, ho17⟩
 rcases m21 with _ | m21
 · exact (loopN_zero hn21).elim
 obtain ⟨t21, h, hn21⟩ := bind_some hn21
 refine c_seq ?_
 refine c_sp ?_
 refine x_pure 2 [(42, Vi i_s13_l21), (43, .slice a_p0 (p0).length c_p0)] _ _ _ (by kernel_rfl) ?_
 refine x_len (vs := [.slice a_p0 (p0).length c_p0]) (Vi ((p0).length : Int)) rfl rfl rfl (reads_len tsl22 _ _ _ _ _) ?_
 refine x_pure 1 [(45, .bool (decide (i_s13_l21 < ((p0).length : Int))))] _ _ _ (by kernel_rfl) ?_
 refine x_ek ?_
 refine c_norm [(0, .slice a_p0 (p0).length c_p0), (1, .slice a_p1 (p1).length c_p1), (8, .slice a6 (d7_l19).length c6), (10, .slice a15 (d16_l19).length c15), (11, .slice a17 (d18_l19).length c17), (12, Vi next_s12_l21), (13, Vi i_s13_l21), (45, .bool (decide (i_s13_l21 < ((p0).length : Int))))] ⟨rfl, rfl, rfl, rfl, rfl, rfl, rfl, rfl, trivial⟩ (fun J => ?_)
 refine c_cond (decide (i_s13_l21 < ((p0).length : Int))) rfl (fun hb => ?_) (fun hb => ?_)
 · replace h := ite_t hb h
   refine c_skip ?_
   refine k_then ?_
   refine c_seq ?_
   refine c_block ?_
   refine c_seq ?_
   refine c_drawn [] [(0, false), (1, false), (2, false), (3, false), (4, false), (5, false), (6, false), (7, false), (8, false), (9, false), (10, false), (11, false), (12, false), (13, false), (14, false), (15, false), (16, false), (17, false), (18, false), (19, false), (20, false), (21, false), (22, false), (23, false), (24, false), (25, false), (26, false)] _ (by kernel_rfl) rfl ?_
   have hst := Stp.ext (ls := [blk a6, blk a15, blk a17, M]) (Ev.drew wl21)
   replace hs_p0 := hs_p0.step hst
   replace hs_p1 := hs_p1.step hst
   replace ho6 := ho6.step hst (Ev.drew wl21) nn2
   replace ho15 := ho15.step hst (Ev.drew wl21) nn2
   replace ho17 := ho17.step hst (Ev.drew wl21) nn2
   replace hms := hms.ev (Ev.drew wl21)
   replace hev := hev.ext (Ev.drew wl21)
   refine x_pure 2 [(48, .slice a_p0 (p0).length c_p0), (49, Vi i_s13_l21)] _ _ _ (by kernel_rfl) ?_
   obtain ⟨x23, hx23, h⟩ := bind_some h
   obtain ⟨ad23, cs23, hr23, hc23, hR⟩ := reads_index (Mo := []) tsl22 hs_p0 hx23
   obtain rfl := hR
   refine x_indexAddr (xv := .slice a_p0 (p0).length c_p0) (yv := Vi i_s13_l21) (.pointer (some ad23)) rfl rfl rfl rfl hr23 ?_
   refine x_load (xv := .pointer (some ad23)) (Vi x23) rfl rfl rfl (reads_cell0 tcell3 hc23 (fun _ h => by cases h)) ?_
   refine x_pure 2 [(52, .bool (decide (x23 > 0))), (53, .bool (decide (x23 > 0)))] _ _ _ (by kernel_rfl) ?_
   refine x_split 53 (decide (x23 > 0)) rfl (fun hb => ?_) (fun hb => ?_)
   · replace h := ite_t hb h
     refine x_pure 2 [(54, .slice a17 (d18_l19).length c17), (55, Vi i_s13_l21)] _ _ _ (by kernel_rfl) ?_
     obtain ⟨x25, hx25, h⟩ := bind_some h
     obtain ⟨g25, cs25, ha25, hr25, hc25, hR⟩ := own_index (Mo := []) tsl41 ho17 hx25
     obtain rfl := hR
     refine x_indexAddr (xv := .slice a17 (d18_l19).length c17) (yv := Vi i_s13_l21) (.pointer (some ⟨g25, (Int.toNat i_s13_l21) * eBool.n, none⟩)) rfl rfl rfl rfl hr25 ?_
     refine x_load (xv := .pointer (some ⟨g25, (Int.toNat i_s13_l21) * eBool.n, none⟩)) (.bool x25) rfl rfl rfl (reads_cell0 tcell4 hc25 (fun _ h => by cases h)) ?_
     refine x_pure 3 [(58, .bool (!x25)), (59, .bool (!x25)), (60, .bool (!x25))] _ _ _ (by kernel_rfl) ?_
     refine x_split 60 (!x25) rfl (fun hb => ?_) (fun hb => ?_)
     · replace h := ite_t hb h
       refine x_pure 3 [(61, Vi next_s12_l21), (62, .bool (decide (next_s12_l21 < 0))), (63, .bool (decide (next_s12_l21 < 0)))] _ _ _ (by kernel_rfl) ?_
       refine x_split 63 (decide (next_s12_l21 < 0)) rfl (fun hb => ?_) (fun hb => ?_)
       · replace h := ite_t hb h
         refine x_pure 11 [(64, undef), (65, undef), (66, undef), (67, undef), (68, undef), (69, undef), (70, undef), (71, undef), (72, undef), (73, .bool true), (74, .bool true)] _ _ _ (by kernel_rfl) ?_
         refine x_ek ?_
         refine c_norm [(0, .slice a_p0 (p0).length c_p0), (1, .slice a_p1 (p1).length c_p1), (8, .slice a6 (d7_l19).length c6), (10, .slice a15 (d16_l19).length c15), (11, .slice a17 (d18_l19).length c17), (12, Vi next_s12_l21), (13, Vi i_s13_l21), (74, .bool true)] ⟨rfl, rfl, rfl, rfl, rfl, rfl, rfl, rfl, trivial⟩ (fun J => ?_)
         refine c_true rfl ?_
         refine c_plain ?_
         refine x_pure 2 [(75, Vi i_s13_l21), (12, Vi i_s13_l21)] _ _ _ (by kernel_rfl) ?_
         refine x_end rfl ?_
         refine k_block ?_
         refine k_then ?_
         refine c_plain ?_
         refine x_pure 3 [(46, Vi i_s13_l21), (47, Vi (IntKind.i64.wrap (i_s13_l21 + 1))), (13, Vi (IntKind.i64.wrap (i_s13_l21 + 1)))] _ _ _ (by kernel_rfl) ?_
         refine x_end rfl ?_
         have hx := some_inj h
         subst hx
         exact k_then ⟨(m21, i_s13_l21, IntKind.i64.wrap (i_s13_l21 + 1)), ⟨rfl, rfl, rfl, rfl, rfl, rfl, rfl, trivial⟩, ⟨hn21, hev, hms, hfr, hs_p0, hs_p1, ho6, ho15, ho17⟩, Nat.lt_succ_self _⟩
       replace h := ite_f hb h
       refine x_pure 2 [(64, .slice a_p0 (p0).length c_p0), (65, Vi i_s13_l21)] _ _ _ (by kernel_rfl) ?_
       obtain ⟨x28, hx28, h⟩ := bind_some h
       obtain ⟨ad28, cs28, hr28, hc28, hR⟩ := reads_index (Mo := []) tsl22 hs_p0 hx28
       obtain rfl := hR
       refine x_indexAddr (xv := .slice a_p0 (p0).length c_p0) (yv := Vi i_s13_l21) (.pointer (some ad28)) rfl rfl rfl rfl hr28 ?_
       refine x_load (xv := .pointer (some ad28)) (Vi x28) rfl rfl rfl (reads_cell0 tcell3 hc28 (fun _ h => by cases h)) ?_
       refine x_pure 2 [(68, .slice a_p0 (p0).length c_p0), (69, Vi next_s12_l21)] _ _ _ (by kernel_rfl) ?_
       obtain ⟨x30, hx30, h⟩ := bind_some h
       obtain ⟨ad30, cs30, hr30, hc30, hR⟩ := reads_index (Mo := []) tsl22 hs_p0 hx30
       obtain rfl := hR
       refine x_indexAddr (xv := .slice a_p0 (p0).length c_p0) (yv := Vi next_s12_l21) (.pointer (some ad30)) rfl rfl rfl rfl hr30 ?_
       refine x_load (xv := .pointer (some ad30)) (Vi x30) rfl rfl rfl (reads_cell0 tcell3 hc30 (fun _ h => by cases h)) ?_
       refine x_pure 3 [(72, .bool (decide (x28 > x30))), (73, .bool (decide (x28 > x30))), (74, .bool (decide (x28 > x30)))] _ _ _ (by kernel_rfl) ?_
       refine x_ek ?_
       refine c_norm [(0, .slice a_p0 (p0).length c_p0), (1, .slice a_p1 (p1).length c_p1), (8, .slice a6 (d7_l19).length c6), (10, .slice a15 (d16_l19).length c15), (11, .slice a17 (d18_l19).length c17), (12, Vi next_s12_l21), (13, Vi i_s13_l21), (74, .bool (decide (x28 > x30)))] ⟨rfl, rfl, rfl, rfl, rfl, rfl, rfl, rfl, trivial⟩ (fun J => ?_)
       refine c_cond (decide (x28 > x30)) rfl (fun hb => ?_) (fun hb => ?_)
       · replace h := ite_t hb h
         refine c_plain ?_
         refine x_pure 2 [(75, Vi i_s13_l21), (12, Vi i_s13_l21)] _ _ _ (by kernel_rfl) ?_
         refine x_end rfl ?_
         refine k_block ?_
         refine k_then ?_
         refine c_plain ?_
         refine x_pure 3 [(46, Vi i_s13_l21), (47, Vi (IntKind.i64.wrap (i_s13_l21 + 1))), (13, Vi (IntKind.i64.wrap (i_s13_l21 + 1)))] _ _ _ (by kernel_rfl) ?_
         refine x_end rfl ?_
         have hx := some_inj h
         subst hx
         exact k_then ⟨(m21, i_s13_l21, IntKind.i64.wrap (i_s13_l21 + 1)), ⟨rfl, rfl, rfl, rfl, rfl, rfl, rfl, trivial⟩, ⟨hn21, hev, hms, hfr, hs_p0, hs_p1, ho6, ho15, ho17⟩, Nat.lt_succ_self _⟩
       replace h := ite_f hb h
       refine c_skip ?_
       refine k_block ?_
       refine k_then ?_
       refine c_plain ?_
       refine x_pure 3 [(46, Vi i_s13_l21), (47, Vi (IntKind.i64.wrap (i_s13_l21 + 1))), (13, Vi (IntKind.i64.wrap (i_s13_l21 + 1)))] _ _ _ (by kernel_rfl) ?_
       refine x_end rfl ?_
       have hx := some_inj h
       subst hx
       exact k_then ⟨(m21, next_s12_l21, IntKind.i64.wrap (i_s13_l21 + 1)), ⟨rfl, rfl, rfl, rfl, rfl, rfl, rfl, trivial⟩, ⟨hn21, hev, hms, hfr, hs_p0, hs_p1, ho6, ho15, ho17⟩, Nat.lt_succ_self _⟩
     replace h := ite_f hb h
     refine x_pure 14 [(61, undef), (62, undef), (63, undef), (64, undef), (65, undef), (66, undef), (67, undef), (68, undef), (69, undef), (70, undef), (71, undef), (72, undef), (73, undef), (74, .bool false)] _ _ _ (by kernel_rfl) ?_
     refine x_ek ?_
     refine c_norm [(0, .slice a_p0 (p0).length c_p0), (1, .slice a_p1 (p1).length c_p1), (8, .slice a6 (d7_l19).length c6), (10, .slice a15 (d16_l19).length c15), (11, .slice a17 (d18_l19).length c17), (12, Vi next_s12_l21), (13, Vi i_s13_l21), (74, .bool false)] ⟨rfl, rfl, rfl, rfl, rfl, rfl, rfl, rfl, trivial⟩ (fun J => ?_)
     refine c_false rfl ?_
     refine c_skip ?_
     refine k_block ?_
     refine k_then ?_
     refine c_plain ?_
     refine x_pure 3 [(46, Vi i_s13_l21), (47, Vi (IntKind.i64.wrap (i_s13_l21 + 1))), (13, Vi (IntKind.i64.wrap (i_s13_l21 + 1)))] _ _ _ (by kernel_rfl) ?_
     refine x_end rfl ?_
     have hx := some_inj h
     subst hx
     exact k_then ⟨(m21, next_s12_l21, IntKind.i64.wrap (i_s13_l21 + 1)), ⟨rfl, rfl, rfl, rfl, rfl, rfl, rfl, trivial⟩, ⟨hn21, hev, hms, hfr, hs_p0, hs_p1, ho6, ho15, ho17⟩, Nat.lt_succ_self _⟩
   replace h := ite_f hb h
   refine x_pure 21 [(54, undef), (55, undef), (56, undef), (57, undef), (58, undef), (59, .bool false), (60, .bool false), (61, undef), (62, undef), (63, undef), (64, undef), (65, undef), (66, undef), (67, undef), (68, undef), (69, undef), (70, undef), (71, undef), (72, undef), (73, undef), (74, .bool false)] _ _ _ (by kernel_rfl) ?_
   refine x_ek ?_
   refine c_norm [(0, .slice a_p0 (p0).length c_p0), (1, .slice a_p1 (p1).length c_p1), (8, .slice a6 (d7_l19).length c6), (10, .slice a15 (d16_l19).length c15), (11, .slice a17 (d18_l19).length c17), (12, Vi next_s12_l21), (13, Vi i_s13_l21), (74, .bool false)] ⟨rfl, rfl, rfl, rfl, rfl, rfl, rfl, rfl, trivial⟩ (fun J => ?_)
   refine c_false rfl ?_
   refine c_skip ?_
   refine k_block ?_
   refine k_then ?_
   refine c_plain ?_
   refine x_pure 3 [(46, Vi i_s13_l21), (47, Vi (IntKind.i64.wrap (i_s13_l21 + 1))), (13, Vi (IntKind.i64.wrap (i_s13_l21 + 1)))] _ _ _ (by kernel_rfl) ?_
   refine x_end rfl ?_
   have hx := some_inj h
   subst hx
   exact k_then ⟨(m21, next_s12_l21, IntKind.i64.wrap (i_s13_l21 + 1)), ⟨rfl, rfl, rfl, rfl, rfl, rfl, rfl, trivial⟩, ⟨hn21, hev, hms, hfr, hs_p0, hs_p1, ho6, ho15, ho17⟩, Nat.lt_succ_self _⟩
 replace h := ite_f hb h
 refine c_exit ?_
 refine k_then_exit ?_
 have hx := some_inj h
 subst hx
 have hy := some_inj hn21
 subst hy
 replace h := h21
 refine k_then_exit ?_
 refine k_block_in ?_
 refine k_then ?_
 refine c_norm [(0, .slice a_p0 (p0).length c_p0), (1, .slice a_p1 (p1).length c_p1), (8, .slice a6 (d7_l19).length c6), (10, .slice a15 (d16_l19).length c15), (11, .slice a17 (d18_l19).length c17), (12, Vi next_s12_l21)] ⟨rfl, rfl, rfl, rfl, rfl, rfl, trivial⟩ (fun J => ?_)
 refine c_seq ?_
 refine c_sp ?_
 refine x_pure 2 [(76, Vi next_s12_l21), (77, .bool (decide (next_s12_l21 < 0)))] _ _ _ (by kernel_rfl) ?_
 refine x_ek ?_
 refine c_cond (decide (next_s12_l21 < 0)) rfl (fun hb => ?_) (fun hb => ?_)
 · replace h := ite_t hb h
   refine c_sp ?_
   refine x_pure 4 [(78, .slice a6 (d7_l19).length c6), (4, .slice a6 (d7_l19).length c6), (5, .slice none 0 0), (6, Vi 0)] _ _ _ (by kernel_rfl) ?_
   refine x_ek ?_
   refine c_ret ?_
   refine k_then_ret ?_
   refine k_block_ret ?_
   have hx := some_inj h
   subst hx
   have hy := some_inj hn19
   subst hy
   have hst := Stp.push (ls := [blk a6, blk a15, blk a17, M]) (l := blk none) (Ev.refl [] wl21) (fun _ h => by cases h) (fun _ h => by cases h)
   replace ho6 := ho6.step hst (Ev.refl [] _) nn2
   replace ho15 := ho15.step hst (Ev.refl [] _) nn2
   replace ho17 := ho17.step hst (Ev.refl [] _) nn2
   replace hms := hms.push (l := blk none) (Ev.refl [] _) (fun _ h => by cases h)
   replace hfr := hfr.push (l := blk none) (fun _ h => by cases h)
   have ho76 := OwnS.nil (eInt .i64) 3 wl21 (fl [blk none, blk a6, blk a15, blk a17, M])
   replace h := h19
   refine k_then_ret ?_
   refine k_block_ret ?_
   refine r_ret (r_vals [.slice a6 (d7_l19).length c6, .slice none (([] : List Int)).length 0, Vi 0] ⟨rfl, rfl, rfl, trivial⟩ ?_)
   have hx := some_inj h
   subst hx
   have hmr : MS wl21 [blk a6, blk none, M] := hms.pick [some 1, some 0, some 4] _ rfl
   have hsu : ∀ x ∈ fl [blk a6, blk none, M], x ∈ fl [blk none, blk a6, blk a15, blk a17, M] := pick_sub [some 1, some 0, some 4] _ rfl
   have hfe : FR w.heap.size [blk a6, blk none] := hfr.pick [some 1, some 0] _ rfl
   exact ⟨a6, c6, none, 0, rfl, hev, hmr, hfe, ho6.sub hsu, ho76.sub hsu⟩
 replace h := ite_f hb h
 refine c_skip ?_
 refine k_then ?_
 refine c_sp ?_
 refine x_pure 2 [(79, .slice a17 (d18_l19).length c17), (80, Vi next_s12_l21)] _ _ _ (by kernel_rfl) ?_
 obtain ⟨x33, hx33, h⟩ := bind_some h
 obtain ⟨g33, cs33, ha33, hr33, hc33, hR⟩ := own_index (Mo := []) tsl41 ho17 hx33
 obtain rfl := hR
 refine x_indexAddr (xv := .slice a17 (d18_l19).length c17) (yv := Vi next_s12_l21) (.pointer (some ⟨g33, (Int.toNat next_s12_l21) * eBool.n, none⟩)) rfl rfl rfl rfl hr33 ?_
 obtain ⟨w37, hr37, he37, ho37⟩ := own_storeE ha33 (y := true) 0 (.bool true) tcell4 ho17 (mem_flat 2 rfl) hx33 rfl rfl (fun _ _ _ hR => set_bool hR)
 refine x_store w37 (xv := .pointer (some ⟨g33, (Int.toNat next_s12_l21) * eBool.n, none⟩)) (yv := .bool true) rfl rfl rfl rfl hr37 ?_
 refine inl1 ?_
 have hst := Stp.ev' (ls := [blk a6, blk a15, blk a17, M]) he37 (mem_flat 2 rfl)
 replace hs_p0 := hs_p0.step hst
 replace hs_p1 := hs_p1.step hst
 replace ho6 := ho6.step hst he37 (hms.apart 0 2 rfl rfl rfl)
 replace ho15 := ho15.step hst he37 (hms.apart 1 2 rfl rfl rfl)
 replace hms := hms.ev he37
 replace hev := hev.then he37 (fun b hb => .inr (hfr.at 2 rfl b hb))
 replace ho17 := ho37
 have hsl : (Value.slice a17 (d18_l19).length c17) = (Value.slice a17 ((d18_l19.set (Int.toNat next_s12_l21) true)).length c17) := by first | (rw [List.length_set]; done) | simp only [List.length_set]
 try rw [hsl]
 clear hsl
 refine x_ek ?_
 refine c_sp ?_
 refine x_pure 1 [(14, Vi (-1))] _ _ _ (by kernel_rfl) ?_
 refine x_ek ?_
 refine c_seq ?_
 refine c_sp ?_
 refine x_pure 1 [(15, Vi 0)] _ _ _ (by kernel_rfl) ?_
 refine x_ek ?_
 refine c_block ?_
 obtain ⟨d39, hd39, h39⟩ := bind_some h
 obtain ⟨m39, hd39⟩ := loop_some hd39
 refine c_loop (loop_rule hmx (σ := Nat × Int × Int) (fun s => match s with | (_, best_s14_l39, v_t_s15_l39) => [(0, .slice a_p0 (p0).length c_p0), (1, .slice a_p1 (p1).length c_p1), (8, .slice a6 (d7_l19).length c6), (10, .slice a15 (d16_l19).length c15), (11, .slice a17 ((d18_l19.set (Int.toNat next_s12_l21) true)).length c17), (12, Vi next_s12_l21), (14, Vi best_s14_l39), (15, Vi v_t_s15_l39)]) (fun s w' => match s with | (m, best_s14_l39, v_t_s15_l39) => loopN (r16_Match_L39 p0 p1 d16_l19 next_s12_l21) m (best_s14_l39, v_t_s15_l39) = some d39 ∧ Ev [] w w' ∧ MS w' [blk a6, blk a15, blk a17, M] ∧ FR w.heap.size [blk a6, blk a15, blk a17] ∧ SlR (eInt .i64) w' (fl [blk a6, blk a15, blk a17, M]) a_p0 c_p0 p0 ∧ SlR (eInt .i64) w' (fl [blk a6, blk a15, blk a17, M]) a_p1 c_p1 p1 ∧ OwnS (eInt .i64) 3 w' (fl [blk a6, blk a15, blk a17, M]) a6 c6 d7_l19 ∧ OwnS eBool 4 w' (fl [blk a6, blk a15, blk a17, M]) a15 c15 d16_l19 ∧ OwnS eBool 4 w' (fl [blk a6, blk a15, blk a17, M]) a17 c17 (d18_l19.set (Int.toNat next_s12_l21) true)) (fun s => s.1) (m39, (-1), 0) ⟨rfl, rfl, rfl, rfl, rfl, rfl, rfl, rfl, trivial⟩ ⟨hd39, hev, hms, hfr, hs_p0, hs_p1, ho6, ho15, ho17⟩ ?_)
 rintro ⟨m39, best_s14_l39, v_t_s15_l39⟩ J wl39 ⟨hn39, hev, hms, hfr, hs_p0, hs_p1, ho6, ho15, ho17⟩
 rcases m39 with _ | m39
 · exact (loopN_zero hn39).elim
 obtain ⟨t39, h, hn39⟩ := bind_some hn39
 refine c_seq ?_
 refine c_sp ?_
 refine x_pure 2 [(82, Vi v_t_s15_l39), (83, .slice a_p1 (p1).length c_p1)] _ _ _ (by kernel_rfl) ?_
 refine x_len (vs := [.slice a_p1 (p1).length c_p1]) (Vi ((p1).length : Int)) rfl rfl rfl (reads_len tsl22 _ _ _ _ _) ?_
 refine x_pure 1 [(85, .bool (decide (v_t_s15_l39 < ((p1).length : Int))))] _ _ _ (by kernel_rfl) ?_
 refine x_ek ?_
 refine c_norm [(0, .slice a_p0 (p0).length c_p0), (1, .slice a_p1 (p1).length c_p1), (8, .slice a6 (d7_l19).length c6), (10, .slice a15 (d16_l19).length c15), (11, .slice a17 ((d18_l19.set (Int.toNat next_s12_l21) true)).length c17), (12, Vi next_s12_l21), (14, Vi best_s14_l39), (15, Vi v_t_s15_l39), (85, .bool (decide (v_t_s15_l39 < ((p1).length : Int))))] ⟨rfl, rfl, rfl, rfl, rfl, rfl, rfl, rfl, rfl, trivial⟩ (fun J => ?_)
 refine c_cond (decide (v_t_s15_l39 < ((p1).length : Int))) rfl (fun hb => ?_) (fun hb => ?_)
 · replace h := ite_t hb h
   refine c_skip ?_
   refine k_then ?_
   refine c_seq ?_
   refine c_block ?_
   refine c_seq ?_
   refine c_drawn [] [(0, false), (1, false), (2, false), (3, false), (4, false), (5, false), (6, false), (7, false), (8, false), (9, false), (10, false), (11, false), (12, false), (13, false), (14, false), (15, false), (16, false), (17, false), (18, false), (19, false), (20, false), (21, false), (22, false), (23, false), (24, false), (25, false), (26, false), (27, false), (28, false), (29, false), (30, false)] _ (by kernel_rfl) rfl ?_
   have hst := Stp.ext (ls := [blk a6, blk a15, blk a17, M]) (Ev.drew wl39)
   replace hs_p0 := hs_p0.step hst
   replace hs_p1 := hs_p1.step hst
   replace ho6 := ho6.step hst (Ev.drew wl39) nn2
   replace ho15 := ho15.step hst (Ev.drew wl39) nn2
   replace ho17 := ho17.step hst (Ev.drew wl39) nn2
   replace hms := hms.ev (Ev.drew wl39)
   replace hev := hev.ext (Ev.drew wl39)
   refine x_pure 2 [(88, .slice a15 (d16_l19).length c15), (89, Vi v_t_s15_l39)] _ _ _ (by kernel_rfl) ?_
   obtain ⟨x41, hx41, h⟩ := bind_some h
   obtain ⟨g41, cs41, ha41, hr41, hc41, hR⟩ := own_index (Mo := []) tsl41 ho15 hx41
   obtain rfl := hR
   refine x_indexAddr (xv := .slice a15 (d16_l19).length c15) (yv := Vi v_t_s15_l39) (.pointer (some ⟨g41, (Int.toNat v_t_s15_l39) * eBool.n, none⟩)) rfl rfl rfl rfl hr41 ?_
   refine x_load (xv := .pointer (some ⟨g41, (Int.toNat v_t_s15_l39) * eBool.n, none⟩)) (.bool x41) rfl rfl rfl (reads_cell0 tcell4 hc41 (fun _ h => by cases h)) ?_
   refine x_pure 2 [(92, .bool (!x41)), (93, .bool (!x41))] _ _ _ (by kernel_rfl) ?_
   refine x_split 93 (!x41) rfl (fun hb => ?_) (fun hb => ?_)
   · replace h := ite_t hb h
     refine x_pure 2 [(94, .slice a_p1 (p1).length c_p1), (95, Vi v_t_s15_l39)] _ _ _ (by kernel_rfl) ?_
     obtain ⟨x44, hx44, h⟩ := bind_some h
     obtain ⟨ad44, cs44, hr44, hc44, hR⟩ := reads_index (Mo := []) tsl22 hs_p1 hx44
     obtain rfl := hR
     refine x_indexAddr (xv := .slice a_p1 (p1).length c_p1) (yv := Vi v_t_s15_l39) (.pointer (some ad44)) rfl rfl rfl rfl hr44 ?_
     refine x_load (xv := .pointer (some ad44)) (Vi x44) rfl rfl rfl (reads_cell0 tcell3 hc44 (fun _ h => by cases h)) ?_
     refine x_pure 2 [(98, .slice a_p0 (p0).length c_p0), (99, Vi next_s12_l21)] _ _ _ (by kernel_rfl) ?_
     obtain ⟨x46, hx46, h⟩ := bind_some h
     obtain ⟨ad46, cs46, hr46, hc46, hR⟩ := reads_index (Mo := []) tsl22 hs_p0 hx46
     obtain rfl := hR
     refine x_indexAddr (xv := .slice a_p0 (p0).length c_p0) (yv := Vi next_s12_l21) (.pointer (some ad46)) rfl rfl rfl rfl hr46 ?_
     refine x_load (xv := .pointer (some ad46)) (Vi x46) rfl rfl rfl (reads_cell0 tcell3 hc46 (fun _ h => by cases h)) ?_
     refine x_pure 3 [(102, .bool (decide (x44 ≥ x46))), (103, .bool (decide (x44 ≥ x46))), (104, .bool (decide (x44 ≥ x46)))] _ _ _ (by kernel_rfl) ?_
     refine x_split 104 (decide (x44 ≥ x46)) rfl (fun hb => ?_) (fun hb => ?_)
     · replace h := ite_t hb h
       refine x_pure 3 [(105, Vi best_s14_l39), (106, .bool (decide (best_s14_l39 < 0))), (107, .bool (decide (best_s14_l39 < 0)))] _ _ _ (by kernel_rfl) ?_
       refine x_split 107 (decide (best_s14_l39 < 0)) rfl (fun hb => ?_) (fun hb => ?_)
       · replace h := ite_t hb h
         refine x_pure 11 [(108, undef), (109, undef), (110, undef), (111, undef), (112, undef), (113, undef), (114, undef), (115, undef), (116, undef), (117, .bool true), (118, .bool true)] _ _ _ (by kernel_rfl) ?_
         refine x_ek ?_
         refine c_norm [(0, .slice a_p0 (p0).length c_p0), (1, .slice a_p1 (p1).length c_p1), (8, .slice a6 (d7_l19).length c6), (10, .slice a15 (d16_l19).length c15), (11, .slice a17 ((d18_l19.set (Int.toNat next_s12_l21) true)).length c17), (12, Vi next_s12_l21), (14, Vi best_s14_l39), (15, Vi v_t_s15_l39), (118, .bool true)] ⟨rfl, rfl, rfl, rfl, rfl, rfl, rfl, rfl, rfl, trivial⟩ (fun J => ?_)
         refine c_true rfl ?_
         refine c_plain ?_
         refine x_pure 2 [(119, Vi v_t_s15_l39), (14, Vi v_t_s15_l39)] _ _ _ (by kernel_rfl) ?_
         refine x_end rfl ?_
         refine k_block ?_
         refine k_then ?_
         refine c_plain ?_
         refine x_pure 3 [(86, Vi v_t_s15_l39), (87, Vi (IntKind.i64.wrap (v_t_s15_l39 + 1))), (15, Vi (IntKind.i64.wrap (v_t_s15_l39 + 1)))] _ _ _ (by kernel_rfl) ?_
         refine x_end rfl ?_
         have hx := some_inj h
         subst hx
         exact k_then ⟨(m39, v_t_s15_l39, IntKind.i64.wrap (v_t_s15_l39 + 1)), ⟨rfl, rfl, rfl, rfl, rfl, rfl, rfl, rfl, trivial⟩, ⟨hn39, hev, hms, hfr, hs_p0, hs_p1, ho6, ho15, ho17⟩, Nat.lt_succ_self _⟩
       replace h := ite_f hb h
       refine x_pure 2 [(108, .slice a_p1 (p1).length c_p1), (109, Vi v_t_s15_l39)] _ _ _ (by kernel_rfl) ?_
       obtain ⟨x48, hx48, h⟩ := bind_some h
       obtain ⟨ad48, cs48, hr48, hc48, hR⟩ := reads_index (Mo := []) tsl22 hs_p1 hx48
       obtain rfl := hR
       refine x_indexAddr (xv := .slice a_p1 (p1).length c_p1) (yv := Vi v_t_s15_l39) (.pointer (some ad48)) rfl rfl rfl rfl hr48 ?_
       refine x_load (xv := .pointer (some ad48)) (Vi x48) rfl rfl rfl (reads_cell0 tcell3 hc48 (fun _ h => by cases h)) ?_
       refine x_pure 2 [(112, .slice a_p1 (p1).length c_p1), (113, Vi best_s14_l39)] _ _ _ (by kernel_rfl) ?_
       obtain ⟨x50, hx50, h⟩ := bind_some h
       obtain ⟨ad50, cs50, hr50, hc50, hR⟩ := reads_index (Mo := []) tsl22 hs_p1 hx50
       obtain rfl := hR
       refine x_indexAddr (xv := .slice a_p1 (p1).length c_p1) (yv := Vi best_s14_l39) (.pointer (some ad50)) rfl rfl rfl rfl hr50 ?_
       refine x_load (xv := .pointer (some ad50)) (Vi x50) rfl rfl rfl (reads_cell0 tcell3 hc50 (fun _ h => by cases h)) ?_
       refine x_pure 3 [(116, .bool (decide (x48 < x50))), (117, .bool (decide (x48 < x50))), (118, .bool (decide (x48 < x50)))] _ _ _ (by kernel_rfl) ?_
       refine x_ek ?_
       refine c_norm [(0, .slice a_p0 (p0).length c_p0), (1, .slice a_p1 (p1).length c_p1), (8, .slice a6 (d7_l19).length c6), (10, .slice a15 (d16_l19).length c15), (11, .slice a17 ((d18_l19.set (Int.toNat next_s12_l21) true)).length c17), (12, Vi next_s12_l21), (14, Vi best_s14_l39), (15, Vi v_t_s15_l39), (118, .bool (decide (x48 < x50)))] ⟨rfl, rfl, rfl, rfl, rfl, rfl, rfl, rfl, rfl, trivial⟩ (fun J => ?_)
       refine c_cond (decide (x48 < x50)) rfl (fun hb => ?_) (fun hb => ?_)
       · replace h := ite_t hb h
         refine c_plain ?_
         refine x_pure 2 [(119, Vi v_t_s15_l39), (14, Vi v_t_s15_l39)] _ _ _ (by kernel_rfl) ?_
         refine x_end rfl ?_
         refine k_block ?_
         refine k_then ?_
         refine c_plain ?_
         refine x_pure 3 [(86, Vi v_t_s15_l39), (87, Vi (IntKind.i64.wrap (v_t_s15_l39 + 1))), (15, Vi (IntKind.i64.wrap (v_t_s15_l39 + 1)))] _ _ _ (by kernel_rfl) ?_
         refine x_end rfl ?_
         have hx := some_inj h
         subst hx
         exact k_then ⟨(m39, v_t_s15_l39, IntKind.i64.wrap (v_t_s15_l39 + 1)), ⟨rfl, rfl, rfl, rfl, rfl, rfl, rfl, rfl, trivial⟩, ⟨hn39, hev, hms, hfr, hs_p0, hs_p1, ho6, ho15, ho17⟩, Nat.lt_succ_self _⟩
       replace h := ite_f hb h
       refine c_skip ?_
       refine k_block ?_
       refine k_then ?_
       refine c_plain ?_
       refine x_pure 3 [(86, Vi v_t_s15_l39), (87, Vi (IntKind.i64.wrap (v_t_s15_l39 + 1))), (15, Vi (IntKind.i64.wrap (v_t_s15_l39 + 1)))] _ _ _ (by kernel_rfl) ?_
       refine x_end rfl ?_
       have hx := some_inj h
       subst hx
       exact k_then ⟨(m39, best_s14_l39, IntKind.i64.wrap (v_t_s15_l39 + 1)), ⟨rfl, rfl, rfl, rfl, rfl, rfl, rfl, rfl, trivial⟩, ⟨hn39, hev, hms, hfr, hs_p0, hs_p1, ho6, ho15, ho17⟩, Nat.lt_succ_self _⟩
     replace h := ite_f hb h
     refine x_pure 14 [(105, undef), (106, undef), (107, undef), (108, undef), (109, undef), (110, undef), (111, undef), (112, undef), (113, undef), (114, undef), (115, undef), (116, undef), (117, undef), (118, .bool false)] _ _ _ (by kernel_rfl) ?_
     refine x_ek ?_
     refine c_norm [(0, .slice a_p0 (p0).length c_p0), (1, .slice a_p1 (p1).length c_p1), (8, .slice a6 (d7_l19).length c6), (10, .slice a15 (d16_l19).length c15), (11, .slice a17 ((d18_l19.set (Int.toNat next_s12_l21) true)).length c17), (12, Vi next_s12_l21), (14, Vi best_s14_l39), (15, Vi v_t_s15_l39), (118, .bool false)] ⟨rfl, rfl, rfl, rfl, rfl, rfl, rfl, rfl, rfl, trivial⟩ (fun J => ?_)
     refine c_false rfl ?_
     refine c_skip ?_
     refine k_block ?_
     refine k_then ?_
     refine c_plain ?_
     refine x_pure 3 [(86, Vi v_t_s15_l39), (87, Vi (IntKind.i64.wrap (v_t_s15_l39 + 1))), (15, Vi (IntKind.i64.wrap (v_t_s15_l39 + 1)))] _ _ _ (by kernel_rfl) ?_
     refine x_end rfl ?_
     have hx := some_inj h
     subst hx
     exact k_then ⟨(m39, best_s14_l39, IntKind.i64.wrap (v_t_s15_l39 + 1)), ⟨rfl, rfl, rfl, rfl, rfl, rfl, rfl, rfl, trivial⟩, ⟨hn39, hev, hms, hfr, hs_p0, hs_p1, ho6, ho15, ho17⟩, Nat.lt_succ_self _⟩
   replace h := ite_f hb h
   refine x_pure 25 [(94, undef), (95, undef), (96, undef), (97, undef), (98, undef), (99, undef), (100, undef), (101, undef), (102, undef), (103, .bool false), (104, .bool false), (105, undef), (106, undef), (107, undef), (108, undef), (109, undef), (110, undef), (111, undef), (112, undef), (113, undef), (114, undef), (115, undef), (116, undef), (117, undef), (118, .bool false)] _ _ _ (by kernel_rfl) ?_
   refine x_ek ?_
   refine c_norm [(0, .slice a_p0 (p0).length c_p0), (1, .slice a_p1 (p1).length c_p1), (8, .slice a6 (d7_l19).length c6), (10, .slice a15 (d16_l19).length c15), (11, .slice a17 ((d18_l19.set (Int.toNat next_s12_l21) true)).length c17), (12, Vi next_s12_l21), (14, Vi best_s14_l39), (15, Vi v_t_s15_l39), (118, .bool false)] ⟨rfl, rfl, rfl, rfl, rfl, rfl, rfl, rfl, rfl, trivial⟩ (fun J => ?_)
   refine c_false rfl ?_
   refine c_skip ?_
   refine k_block ?_
   refine k_then ?_
   refine c_plain ?_
   refine x_pure 3 [(86, Vi v_t_s15_l39), (87, Vi (IntKind.i64.wrap (v_t_s15_l39 + 1))), (15, Vi (IntKind.i64.wrap (v_t_s15_l39 + 1)))] _ _ _ (by kernel_rfl) ?_
   refine x_end rfl ?_
   have hx := some_inj h
   subst hx
   exact k_then ⟨(m39, best_s14_l39, IntKind.i64.wrap (v_t_s15_l39 + 1)), ⟨rfl, rfl, rfl, rfl, rfl, rfl, rfl, rfl, trivial⟩, ⟨hn39, hev, hms, hfr, hs_p0, hs_p1, ho6, ho15, ho17⟩, Nat.lt_succ_self _⟩
 replace h := ite_f hb h
 refine c_exit ?_
 refine k_then_exit ?_
 have hx := some_inj h
 subst hx
 have hy := some_inj hn39
 subst hy
 replace h := h39
 refine k_then_exit ?_
 refine k_block_in ?_
 refine k_then ?_
 refine c_norm [(0, .slice a_p0 (p0).length c_p0), (1, .slice a_p1 (p1).length c_p1), (8, .slice a6 (d7_l19).length c6), (10, .slice a15 (d16_l19).length c15), (11, .slice a17 ((d18_l19.set (Int.toNat next_s12_l21) true)).length c17), (12, Vi next_s12_l21), (14, Vi best_s14_l39)] ⟨rfl, rfl, rfl, rfl, rfl, rfl, rfl, trivial⟩ (fun J => ?_)
 refine c_seq ?_
 refine c_sp ?_
 refine x_pure 2 [(120, Vi best_s14_l39), (121, .bool (decide (best_s14_l39 < 0)))] _ _ _ (by kernel_rfl) ?_
 refine x_ek ?_
 refine c_cond (decide (best_s14_l39 < 0)) rfl (fun hb => ?_) (fun hb => ?_)
 · replace h := ite_t hb h
   refine c_sp ?_
   refine x_pure 1 [(16, .slice none 0 0)] _ _ _ (by kernel_rfl) ?_
   refine x_ek ?_
   refine c_seq ?_
   refine c_sp ?_
   refine x_pure 1 [(17, Vi 0)] _ _ _ (by kernel_rfl) ?_
   refine x_ek ?_
   refine c_block ?_
   have hst := Stp.push (ls := [blk a6, blk a15, blk a17, M]) (l := blk none) (Ev.refl [] wl39) (fun _ h => by cases h) (fun _ h => by cases h)
   replace hs_p0 := hs_p0.step hst
   replace ho6 := ho6.step hst (Ev.refl [] _) nn2
   replace ho15 := ho15.step hst (Ev.refl [] _) nn2
   replace ho17 := ho17.step hst (Ev.refl [] _) nn2
   replace hms := hms.push (l := blk none) (Ev.refl [] _) (fun _ h => by cases h)
   replace hfr := hfr.push (l := blk none) (fun _ h => by cases h)
   have ho53 := OwnS.nil (eInt .i64) 3 wl39 (fl [blk none, blk a6, blk a15, blk a17, M])
   have hpk : MS wl39 [blk a17, blk none, M] := hms.pick [some 3, some 0, some 4] _ rfl
   have hsu : ∀ x ∈ fl [blk a17, blk none, M], x ∈ fl [blk none, blk a6, blk a15, blk a17, M] := pick_sub [some 3, some 0, some 4] _ rfl
   replace hs_p0 := hs_p0.sub hsu
   replace ho17 := ho17.sub hsu
   replace ho53 := ho53.sub hsu
   replace hms := hpk
   replace hfr : FR w.heap.size [blk a17, blk none] := hfr.pick [some 3, some 0] _ rfl
   clear hpk hsu
   obtain ⟨d52, hd52, h52⟩ := bind_some h
   obtain ⟨m52, hd52⟩ := loop_some hd52
   refine c_loop (loop_rule hmx (σ := Nat × (List Int) × Int × Option Addr × Nat) (fun s => match s with | (_, d54_l52, i_s17_l52, a54_l52, c54_l52) => [(0, .slice a_p0 (p0).length c_p0), (11, .slice a17 ((d18_l19.set (Int.toNat next_s12_l21) true)).length c17), (16, .slice a54_l52 (d54_l52).length c54_l52), (17, Vi i_s17_l52)]) (fun s w' => match s with | (m, d54_l52, i_s17_l52, a54_l52, c54_l52) => loopN (r16_Match_L52 p0 d18_l19 next_s12_l21) m (d54_l52, i_s17_l52) = some d52 ∧ Ev [] w w' ∧ MS w' [blk a17, blk a54_l52, M] ∧ FR w.heap.size [blk a17, blk a54_l52] ∧ SlR (eInt .i64) w' (fl [blk a17, blk a54_l52, M]) a_p0 c_p0 p0 ∧ OwnS eBool 4 w' (fl [blk a17, blk a54_l52, M]) a17 c17 (d18_l19.set (Int.toNat next_s12_l21) true) ∧ OwnS (eInt .i64) 3 w' (fl [blk a17, blk a54_l52, M]) a54_l52 c54_l52 d54_l52) (fun s => s.1) (m52, ([] : List Int), 0, none, 0) ⟨rfl, rfl, rfl, rfl, trivial⟩ ⟨hd52, hev, hms, hfr, hs_p0, ho17, ho53⟩ ?_)
   rintro ⟨m52, d54_l52, i_s17_l52, a54_l52, c54_l52⟩ J wl52 ⟨hn52, hev, hms, hfr, hs_p0, ho17, hj54_l52⟩
   rcases m52 with _ | m52
   · exact (loopN_zero hn52).elim
   obtain ⟨t52, h, hn52⟩ := bind_some hn52
   refine c_seq ?_
   refine c_sp ?_
   refine x_pure 2 [(122, Vi i_s17_l52), (123, .slice a_p0 (p0).length c_p0)] _ _ _ (by kernel_rfl) ?_
   refine x_len (vs := [.slice a_p0 (p0).length c_p0]) (Vi ((p0).length : Int)) rfl rfl rfl (reads_len tsl22 _ _ _ _ _) ?_
   refine x_pure 1 [(125, .bool (decide (i_s17_l52 < ((p0).length : Int))))] _ _ _ (by kernel_rfl) ?_
   refine x_ek ?_
   refine c_norm [(0, .slice a_p0 (p0).length c_p0), (11, .slice a17 ((d18_l19.set (Int.toNat next_s12_l21) true)).length c17), (16, .slice a54_l52 (d54_l52).length c54_l52), (17, Vi i_s17_l52), (125, .bool (decide (i_s17_l52 < ((p0).length : Int))))] ⟨rfl, rfl, rfl, rfl, rfl, trivial⟩ (fun J => ?_)
   refine c_cond (decide (i_s17_l52 < ((p0).length : Int))) rfl (fun hb => ?_) (fun hb => ?_)
   · replace h := ite_t hb h
     refine c_skip ?_
     refine k_then ?_
     refine c_seq ?_
     refine c_block ?_
     refine c_sp ?_
     refine x_pure 2 [(128, .slice a17 ((d18_l19.set (Int.toNat next_s12_l21) true)).length c17), (129, Vi i_s17_l52)] _ _ _ (by kernel_rfl) ?_
     obtain ⟨x58, hx58, h⟩ := bind_some h
     obtain ⟨g58, cs58, ha58, hr58, hc58, hR⟩ := own_index (Mo := []) tsl41 ho17 hx58
     obtain rfl := hR
     refine x_indexAddr (xv := .slice a17 ((d18_l19.set (Int.toNat next_s12_l21) true)).length c17) (yv := Vi i_s17_l52) (.pointer (some ⟨g58, (Int.toNat i_s17_l52) * eBool.n, none⟩)) rfl rfl rfl rfl hr58 ?_
     refine x_load (xv := .pointer (some ⟨g58, (Int.toNat i_s17_l52) * eBool.n, none⟩)) (.bool x58) rfl rfl rfl (reads_cell0 tcell4 hc58 (fun _ h => by cases h)) ?_
     refine x_ek ?_
     refine c_cond x58 rfl (fun hb => ?_) (fun hb => ?_)
     · replace h := ite_t hb h
       refine c_plain ?_
       refine x_pure 2 [(132, .slice a54_l52 (d54_l52).length c54_l52), (133, Vi i_s17_l52)] _ _ _ (by kernel_rfl) ?_
       refine x_buildSlice (vs := [(0, Vi i_s17_l52)]) #[Vi i_s17_l52] 3 rfl rfl rfl (by kernel_rfl) (fun b61 w61 hq61 hb61 he61 hz61 => ?_)
       refine inl1 ?_
       have hms0 := hms
       have hst := Stp.ext (ls := [blk a17, blk a54_l52, M]) he61
       replace hs_p0 := hs_p0.step hst
       replace ho17 := ho17.step hst he61 nn2
       replace hj54_l52 := hj54_l52.step hst he61 nn2
       replace hms := hms.ev he61
       replace hev := hev.ext he61
       have hs61 : SlR (eInt .i64) w61 (fl [blk a17, blk a54_l52, M]) (Ad b61 0) 1 ([i_s17_l52]) := ro_of_box hms0 hq61 hb61 rfl rfl (cells_at (cs := [Vi i_s17_l52]) (CellsOf.cons (c := [Vi i_s17_l52]) rfl CellsOf.nil))
       clear hb61 hms0
       have hg := guard_l h
       replace h := guard_r h
       obtain ⟨a63, c63, w63, hr63, he63, hn63, hm63, hw63⟩ := own_appendN tel22 22 hj54_l52 (mem_flat 1 rfl) hs61 hg
       refine x_builtin (vs := [.slice a54_l52 (d54_l52).length c54_l52, .slice (Ad b61 0) ([i_s17_l52]).length 1]) _ w63 rfl rfl rfl rfl (run_value _ _ _ _ hr63) ?_
       refine inl1 ?_
       have hst : Stp (fl [blk a17, blk a54_l52, M]) w61 (fl [blk a17, blk a63, M]) w63 := Stp.upd 1 he63 rfl (fun b hb => (hn63 b hb).1)
       replace hs_p0 := hs_p0.step hst
       replace ho17 := ho17.step hst he63 (hms.apart 0 1 rfl rfl rfl)
       replace hs61 := hs61.step hst
       replace hms : MS w63 [blk a17, blk a63, M] := hms.upd 1 he63 rfl hn63
       have hfr2 : FR w.heap.size [blk a17, blk a63] := hfr.upd 1 rfl hev.size (fun b hb => (hn63 b hb).1)
       replace hev := hev.then he63 (fun b hb => .inr (hfr.at 1 rfl b hb))
       replace hfr := hfr2
       clear hfr2
       replace hj54_l52 := hw63 (fl [blk a17, blk a63, M]) hst.new
       clear hw63
       refine x_pure 1 [(16, .slice a63 ((d54_l52 ++ [i_s17_l52])).length c63)] _ _ _ (by kernel_rfl) ?_
       refine x_end rfl ?_
       refine k_block ?_
       refine k_then ?_
       refine c_plain ?_
       refine x_pure 3 [(126, Vi i_s17_l52), (127, Vi (IntKind.i64.wrap (i_s17_l52 + 1))), (17, Vi (IntKind.i64.wrap (i_s17_l52 + 1)))] _ _ _ (by kernel_rfl) ?_
       refine x_end rfl ?_
       have hx := some_inj h
       subst hx
       exact k_then ⟨(m52, (d54_l52 ++ [i_s17_l52]), IntKind.i64.wrap (i_s17_l52 + 1), a63, c63), ⟨rfl, rfl, rfl, rfl, trivial⟩, ⟨hn52, hev, hms, hfr, hs_p0, ho17, hj54_l52⟩, Nat.lt_succ_self _⟩
     replace h := ite_f hb h
     refine c_skip ?_
     refine k_block ?_
     refine k_then ?_
     refine c_plain ?_
     refine x_pure 3 [(126, Vi i_s17_l52), (127, Vi (IntKind.i64.wrap (i_s17_l52 + 1))), (17, Vi (IntKind.i64.wrap (i_s17_l52 + 1)))] _ _ _ (by kernel_rfl) ?_
     refine x_end rfl ?_
     have hx := some_inj h
     subst hx
     exact k_then ⟨(m52, d54_l52, IntKind.i64.wrap (i_s17_l52 + 1), a54_l52, c54_l52), ⟨rfl, rfl, rfl, rfl, trivial⟩, ⟨hn52, hev, hms, hfr, hs_p0, ho17, hj54_l52⟩, Nat.lt_succ_self _⟩
   replace h := ite_f hb h
   refine c_exit ?_
   refine k_then_exit ?_
   have hx := some_inj h
   subst hx
   have hy := some_inj hn52
   subst hy
   replace h := h52
   refine k_then_exit ?_
   refine k_block_in ?_
   refine k_then ?_
   refine c_norm [(16, .slice a54_l52 (d54_l52).length c54_l52)] ⟨rfl, trivial⟩ (fun J => ?_)
   refine c_sp ?_
   refine x_pure 4 [(136, .slice a54_l52 (d54_l52).length c54_l52), (4, .slice none 0 0), (5, .slice a54_l52 (d54_l52).length c54_l52), (6, Vi 14)] _ _ _ (by kernel_rfl) ?_
   refine x_ek ?_
   refine c_ret ?_
   refine k_then_ret ?_
   refine k_block_ret ?_
   have hx := some_inj h
   subst hx
   have hy := some_inj hn19
   subst hy
   have hst := Stp.push (ls := [blk a17, blk a54_l52, M]) (l := blk none) (Ev.refl [] wl52) (fun _ h => by cases h) (fun _ h => by cases h)
   replace ho17 := ho17.step hst (Ev.refl [] _) nn2
   replace hj54_l52 := hj54_l52.step hst (Ev.refl [] _) nn2
   replace hms := hms.push (l := blk none) (Ev.refl [] _) (fun _ h => by cases h)
   replace hfr := hfr.push (l := blk none) (fun _ h => by cases h)
   have ho74 := OwnS.nil (eInt .i64) 3 wl52 (fl [blk none, blk a17, blk a54_l52, M])
   replace h := h19
   refine k_then_ret ?_
   refine k_block_ret ?_
   refine r_ret (r_vals [.slice none (([] : List Int)).length 0, .slice a54_l52 (d54_l52).length c54_l52, Vi 14] ⟨rfl, rfl, rfl, trivial⟩ ?_)
   have hx := some_inj h
   subst hx
   have hmr : MS wl52 [blk none, blk a54_l52, M] := hms.pick [some 0, some 2, some 3] _ rfl
   have hsu : ∀ x ∈ fl [blk none, blk a54_l52, M], x ∈ fl [blk none, blk a17, blk a54_l52, M] := pick_sub [some 0, some 2, some 3] _ rfl
   have hfe : FR w.heap.size [blk none, blk a54_l52] := hfr.pick [some 0, some 2] _ rfl
   exact ⟨none, 0, a54_l52, c54_l52, rfl, hev, hmr, hfe, ho74.sub hsu, hj54_l52.sub hsu⟩
 replace h := ite_f hb h
 refine c_skip ?_
 refine k_then ?_
 refine c_sp ?_
 refine x_pure 2 [(137, .slice a15 (d16_l19).length c15), (138, Vi best_s14_l39)] _ _ _ (by kernel_rfl) ?_
 obtain ⟨x64, hx64, h⟩ := bind_some h
 obtain ⟨g64, cs64, ha64, hr64, hc64, hR⟩ := own_index (Mo := []) tsl41 ho15 hx64
 obtain rfl := hR
 refine x_indexAddr (xv := .slice a15 (d16_l19).length c15) (yv := Vi best_s14_l39) (.pointer (some ⟨g64, (Int.toNat best_s14_l39) * eBool.n, none⟩)) rfl rfl rfl rfl hr64 ?_
 obtain ⟨w68, hr68, he68, ho68⟩ := own_storeE ha64 (y := true) 0 (.bool true) tcell4 ho15 (mem_flat 1 rfl) hx64 rfl rfl (fun _ _ _ hR => set_bool hR)
 refine x_store w68 (xv := .pointer (some ⟨g64, (Int.toNat best_s14_l39) * eBool.n, none⟩)) (yv := .bool true) rfl rfl rfl rfl hr68 ?_
 refine inl1 ?_
 have hst := Stp.ev' (ls := [blk a6, blk a15, blk a17, M]) he68 (mem_flat 1 rfl)
 replace hs_p0 := hs_p0.step hst
 replace hs_p1 := hs_p1.step hst
 replace ho6 := ho6.step hst he68 (hms.apart 0 1 rfl rfl rfl)
 replace ho17 := ho17.step hst he68 (hms.apart 2 1 rfl rfl rfl)
 replace hms := hms.ev he68
 replace hev := hev.then he68 (fun b hb => .inr (hfr.at 1 rfl b hb))
 replace ho15 := ho68
 have hsl : (Value.slice a15 (d16_l19).length c15) = (Value.slice a15 ((d16_l19.set (Int.toNat best_s14_l39) true)).length c15) := by first | (rw [List.length_set]; done) | simp only [List.length_set]
 try rw [hsl]
 clear hsl
 refine x_ek ?_
 refine c_plain ?_
 refine x_pure 3 [(140, .slice a6 (d7_l19).length c6), (141, Vi next_s12_l21), (142, Vi best_s14_l39)] _ _ _ (by kernel_rfl) ?_
 obtain ⟨x69, hx69, h⟩ := bind_some h
 obtain ⟨g69, cs69, ha69, hr69, hc69, hR⟩ := own_index (Mo := []) tsl22 ho6 hx69
 obtain rfl := hR
 refine x_indexAddr (xv := .slice a6 (d7_l19).length c6) (yv := Vi next_s12_l21) (.pointer (some ⟨g69, (Int.toNat next_s12_l21) * (eInt .i64).n, none⟩)) rfl rfl rfl rfl hr69 ?_
 obtain ⟨w73, hr73, he73, ho73⟩ := own_storeE ha69 (y := best_s14_l39) 0 (Vi best_s14_l39) tcell3 ho6 (mem_flat 0 rfl) hx69 rfl rfl (fun _ _ _ hR => set_int hR)
 refine x_store w73 (xv := .pointer (some ⟨g69, (Int.toNat next_s12_l21) * (eInt .i64).n, none⟩)) (yv := Vi best_s14_l39) rfl rfl rfl rfl hr73 ?_
 refine inl1 ?_
 have hst := Stp.ev' (ls := [blk a6, blk a15, blk a17, M]) he73 (mem_flat 0 rfl)
 replace hs_p0 := hs_p0.step hst
 replace hs_p1 := hs_p1.step hst
 replace ho15 := ho15.step hst he73 (hms.apart 1 0 rfl rfl rfl)
 replace ho17 := ho17.step hst he73 (hms.apart 2 0 rfl rfl rfl)
 replace hms := hms.ev he73
 replace hev := hev.then he73 (fun b hb => .inr (hfr.at 0 rfl b hb))
 replace ho6 := ho73
 have hsl : (Value.slice a6 (d7_l19).length c6) = (Value.slice a6 ((d7_l19.set (Int.toNat next_s12_l21) best_s14_l39)).length c6) := by first | (rw [List.length_set]; done) | simp only [List.length_set]
 try rw [hsl]
 clear hsl
 refine x_end rfl ?_
 refine k_block ?_
 have hx := some_inj h
 subst hx
 exact k_then ⟨(m19, (d7_l19.set (Int.toNat next_s12_l21) best_s14_l39), (d16_l19.set (Int.toNat best_s14_l39) true), (d18_l19.set (Int.toNat next_s12_l21) true)), ⟨rfl, rfl, rfl, rfl, rfl, trivial⟩, ⟨hn19, hev, hms, hfr, hs_p0, hs_p1, ho6, ho15, ho17⟩, Nat.lt_succ_self _⟩
def r16_Fits_L9 (p0 : List Int) (p1 : List Int) (p2 : List Int) (s : (List Bool) × Int) : Option (Step ((List Bool) × Int) (Unit ⊕ Unit)) :=
match s with
| (d8_l9, i_s8_l9) =>
(if (decide (i_s8_l9 < ((p2).length : Int))) = true then
((idx p0 i_s8_l9).bind fun x12 =>
(if (x12 == 0) = true then
((idx p2 i_s8_l9).bind fun x14 =>
(if (x14 != (-1)) = true then
some (.done (.inl ()))
else
some (.next (d8_l9, IntKind.i64.wrap (i_s8_l9 + 1)))))
else
((idx p2 i_s8_l9).bind fun x16 =>
(if (decide (x16 < 0)) = true then
some (.done (.inl ()))
else
((idx p2 i_s8_l9).bind fun x18 =>
(if (decide (x18 ≥ ((p1).length : Int))) = true then
some (.done (.inl ()))
else
((idx p2 i_s8_l9).bind fun x20 =>
((idx d8_l9 x20).bind fun x22 =>
(if x22 = true then
some (.done (.inl ()))
else
((idx p2 i_s8_l9).bind fun x25 =>
((idx p1 x25).bind fun x27 =>
((idx p0 i_s8_l9).bind fun x29 =>
(if (decide (x27 < x29)) = true then
some (.done (.inl ()))
else
((idx p2 i_s8_l9).bind fun x31 =>
((idx d8_l9 x31).bind fun x33 =>
some (.next ((d8_l9.set (Int.toNat x31) true), IntKind.i64.wrap (i_s8_l9 + 1))))))))))))))))))
else
some (.done (.inr ())))

def r16_Fits (p0 : List Int) (p1 : List Int) (p2 : List Int) : Option Bool :=
((r16_valid p0 p1).bind fun x5 =>
(if (x5 != 0) = true then
some false
else
(if (((p2).length : Int) != ((p0).length : Int)) = true then
some false
else
(if (0 : Int) ≤ ((p1).length : Int) ∧ (((p1).length : Int) : Int) ≤ 4294967296 then
((loop (r16_Fits_L9 p0 p1 p2) ((List.replicate (Int.toNat ((p1).length : Int)) false : List Bool), 0)).bind fun d => match d with
| (.inl _) => some false
| (.inr _) => some true)
else none))))

theorem r16_Fits_w (a_p0 : Option Addr) (c_p0 : Nat) (p0 : List Int) (a_p1 : Option Addr) (c_p1 : Nat) (p1 : List Int) (a_p2 : Option Addr) (c_p2 : Nat) (p2 : List Int) (r : Bool) (w : World) (M : List Nat) (hms : MS w [M]) (hs_p0 : SlR (eInt .i64) w (fl [M]) a_p0 c_p0 p0) (hs_p1 : SlR (eInt .i64) w (fl [M]) a_p1 c_p1 p1) (hs_p2 : SlR (eInt .i64) w (fl [M]) a_p2 c_p2 p2) (h : r16_Fits p0 p1 p2 = some r) : CallVC Try.prog 27 [.slice a_p0 (p0).length c_p0, .slice a_p1 (p1).length c_p1, .slice a_p2 (p2).length c_p2] w fun v w' => v = .bool r ∧ Ev [] w w' := by
 refine calls_vc hmx Try.func27 (by kernel_rfl) rfl (rs := [.tmp 6]) rfl (by kernel_rfl) (args := [.slice a_p0 (p0).length c_p0, .slice a_p1 (p1).length c_p1, .slice a_p2 (p2).length c_p2]) rfl ?_
 have hev : Ev [] w w := Ev.refl _ _
 have hfr : FR w.heap.size [] := FR.nil _
 refine c_sp ?_
 refine x_pure 1 [(6, .bool false)] _ _ _ (by kernel_rfl) ?_
 refine x_ek ?_
 refine c_seq ?_
 refine c_sp ?_
 refine x_pure 2 [(9, .slice a_p0 (p0).length c_p0), (10, .slice a_p1 (p1).length c_p1)] _ _ _ (by kernel_rfl) ?_
 obtain ⟨x5, hx, h⟩ := bind_some h
 have hpk : MS w ([] ++ [M]) := hms.pick [some 0] _ rfl
 have hsb0 : ∀ x ∈ fl ([] ++ [M]), x ∈ fl [M] := pick_sub [some 0] _ rfl
 have hsb : ∀ x ∈ fl ([] ++ [(fl [M])]), x ∈ fl [M] := fun x hx => hsb0 x (fl_unfold x hx)
 have hcall := r16_valid_w a_p0 c_p0 p0 a_p1 c_p1 p1 _ w (fl [M]) (MS.fold (P := []) hpk) (hs_p0.sub hsb) (hs_p1.sub hsb) hx
 refine x_call 26 #[] #[] [.slice a_p0 (p0).length c_p0, .slice a_p1 (p1).length c_p1] _ rfl rfl rfl rfl hcall ?_
 rintro v w6 ⟨rfl, he6⟩
 clear hcall hx
 refine inl1 ?_
 have hst := Stp.ext (ls := [M]) he6
 replace hs_p0 := hs_p0.step hst
 replace hs_p1 := hs_p1.step hst
 replace hs_p2 := hs_p2.step hst
 replace hms := hms.ev he6
 replace hev := hev.ext he6
 clear hpk hsb hsb0
 refine x_pure 2 [(12, .bool (x5 != 0)), (13, .bool (x5 != 0))] _ _ _ (by kernel_rfl) ?_
 refine x_split 13 (x5 != 0) rfl (fun hb => ?_) (fun hb => ?_)
 · replace h := ite_t hb h
   refine x_pure 6 [(14, undef), (15, undef), (16, undef), (17, undef), (18, undef), (19, .bool true)] _ _ _ (by kernel_rfl) ?_
   refine x_ek ?_
   refine c_true rfl ?_
   refine c_sp ?_
   refine x_pure 1 [(6, .bool false)] _ _ _ (by kernel_rfl) ?_
   refine x_ek ?_
   refine c_norm [(6, .bool false)] ⟨rfl, trivial⟩ (fun J => ?_)
   refine c_ret ?_
   refine k_then_ret ?_
   refine r_ret (r_vals [.bool false] ⟨rfl, trivial⟩ ?_)
   have hx := some_inj h
   subst hx
   have hmr : MS w6 [M] := hms.pick [some 0] _ rfl
   have hsu : ∀ x ∈ fl [M], x ∈ fl [M] := pick_sub [some 0] _ rfl
   exact ⟨rfl, hev⟩
 replace h := ite_f hb h
 refine x_pure 1 [(14, .slice a_p2 (p2).length c_p2)] _ _ _ (by kernel_rfl) ?_
 refine x_len (vs := [.slice a_p2 (p2).length c_p2]) (Vi ((p2).length : Int)) rfl rfl rfl (reads_len tsl22 _ _ _ _ _) ?_
 refine x_pure 1 [(16, .slice a_p0 (p0).length c_p0)] _ _ _ (by kernel_rfl) ?_
 refine x_len (vs := [.slice a_p0 (p0).length c_p0]) (Vi ((p0).length : Int)) rfl rfl rfl (reads_len tsl22 _ _ _ _ _) ?_
 refine x_pure 2 [(18, .bool (((p2).length : Int) != ((p0).length : Int))), (19, .bool (((p2).length : Int) != ((p0).length : Int)))] _ _ _ (by kernel_rfl) ?_
 refine x_ek ?_
 refine c_cond (((p2).length : Int) != ((p0).length : Int)) rfl (fun hb => ?_) (fun hb => ?_)
 · replace h := ite_t hb h
   refine c_sp ?_
   refine x_pure 1 [(6, .bool false)] _ _ _ (by kernel_rfl) ?_
   refine x_ek ?_
   refine c_norm [(6, .bool false)] ⟨rfl, trivial⟩ (fun J => ?_)
   refine c_ret ?_
   refine k_then_ret ?_
   refine r_ret (r_vals [.bool false] ⟨rfl, trivial⟩ ?_)
   have hx := some_inj h
   subst hx
   have hmr : MS w6 [M] := hms.pick [some 0] _ rfl
   have hsu : ∀ x ∈ fl [M], x ∈ fl [M] := pick_sub [some 0] _ rfl
   exact ⟨rfl, hev⟩
 replace h := ite_f hb h
 refine c_skip ?_
 refine k_then ?_
 refine c_norm [(0, .slice a_p0 (p0).length c_p0), (1, .slice a_p1 (p1).length c_p1), (2, .slice a_p2 (p2).length c_p2)] ⟨rfl, rfl, rfl, trivial⟩ (fun J => ?_)
 refine c_sp ?_
 refine x_pure 1 [(20, .slice a_p1 (p1).length c_p1)] _ _ _ (by kernel_rfl) ?_
 refine x_len (vs := [.slice a_p1 (p1).length c_p1]) (Vi ((p1).length : Int)) rfl rfl rfl (reads_len tsl22 _ _ _ _ _) ?_
 have hg := guard_l h
 replace h := guard_r h
 obtain ⟨a7, c7, w7, hr7, he7, hn7, hw7⟩ := own_make (e := eBool) tel41 w6 ((p1).length : Int) hg.1 hg.2 false (fun _ _ => rfl)
 refine x_makeSlice _ w7 (xv := Vi ((p1).length : Int)) (yv := Vi ((p1).length : Int)) rfl rfl rfl rfl hr7 ?_
 refine inl1 ?_
 have hst := Stp.push (ls := [M]) (l := blk a7) he7 (fun _ h => by cases h) (fun b hb => (hn7 b hb).1)
 replace hs_p0 := hs_p0.step hst
 replace hs_p1 := hs_p1.step hst
 replace hs_p2 := hs_p2.step hst
 replace hms := hms.push he7 hn7
 replace hfr := hfr.push (fun b hb => Nat.le_trans hev.size (hn7 b hb).1)
 replace hev := hev.ext he7
 have ho7 := hw7 (fl [blk a7, M])
 clear hw7
 refine x_pure 1 [(7, .slice a7 ((List.replicate (Int.toNat ((p1).length : Int)) false : List Bool)).length c7)] _ _ _ (by kernel_rfl) ?_
 refine x_ek ?_
 refine c_seq ?_
 refine c_sp ?_
 refine x_pure 1 [(8, Vi 0)] _ _ _ (by kernel_rfl) ?_
 refine x_ek ?_
 refine c_block ?_
 obtain ⟨d9, hd9, h9⟩ := bind_some h
 obtain ⟨m9, hd9⟩ := loop_some hd9
 refine c_loop (loop_rule hmx (σ := Nat × (List Bool) × Int) (fun s => match s with | (_, d8_l9, i_s8_l9) => [(0, .slice a_p0 (p0).length c_p0), (1, .slice a_p1 (p1).length c_p1), (2, .slice a_p2 (p2).length c_p2), (7, .slice a7 (d8_l9).length c7), (8, Vi i_s8_l9)]) (fun s w' => match s with | (m, d8_l9, i_s8_l9) => loopN (r16_Fits_L9 p0 p1 p2) m (d8_l9, i_s8_l9) = some d9 ∧ Ev [] w w' ∧ MS w' [blk a7, M] ∧ FR w.heap.size [blk a7] ∧ SlR (eInt .i64) w' (fl [blk a7, M]) a_p0 c_p0 p0 ∧ SlR (eInt .i64) w' (fl [blk a7, M]) a_p1 c_p1 p1 ∧ SlR (eInt .i64) w' (fl [blk a7, M]) a_p2 c_p2 p2 ∧ OwnS eBool 4 w' (fl [blk a7, M]) a7 c7 d8_l9) (fun s => s.1) (m9, (List.replicate (Int.toNat ((p1).length : Int)) false : List Bool), 0) ⟨rfl, rfl, rfl, rfl, rfl, trivial⟩ ⟨hd9, hev, hms, hfr, hs_p0, hs_p1, hs_p2, ho7⟩ ?_)
 rintro ⟨m9, d8_l9, i_s8_l9⟩ J wl9 ⟨hn9, hev, hms, hfr, hs_p0, hs_p1, hs_p2, ho7⟩
 rcases m9 with _ | m9
 · exact (loopN_zero hn9).elim
 obtain ⟨t9, h, hn9⟩ := bind_some hn9
 refine c_seq ?_
 refine c_sp ?_
 refine x_pure 2 [(23, Vi i_s8_l9), (24, .slice a_p2 (p2).length c_p2)] _ _ _ (by kernel_rfl) ?_
 refine x_len (vs := [.slice a_p2 (p2).length c_p2]) (Vi ((p2).length : Int)) rfl rfl rfl (reads_len tsl22 _ _ _ _ _) ?_
 refine x_pure 1 [(26, .bool (decide (i_s8_l9 < ((p2).length : Int))))] _ _ _ (by kernel_rfl) ?_
 refine x_ek ?_
 refine c_norm [(0, .slice a_p0 (p0).length c_p0), (1, .slice a_p1 (p1).length c_p1), (2, .slice a_p2 (p2).length c_p2), (7, .slice a7 (d8_l9).length c7), (8, Vi i_s8_l9), (26, .bool (decide (i_s8_l9 < ((p2).length : Int))))] ⟨rfl, rfl, rfl, rfl, rfl, rfl, trivial⟩ (fun J => ?_)
 refine c_cond (decide (i_s8_l9 < ((p2).length : Int))) rfl (fun hb => ?_) (fun hb => ?_)
 · replace h := ite_t hb h
   refine c_skip ?_
   refine k_then ?_
   refine c_seq ?_
   refine c_block ?_
   refine c_seq ?_
   refine c_sp ?_
   refine x_pure 2 [(29, .slice a_p0 (p0).length c_p0), (30, Vi i_s8_l9)] _ _ _ (by kernel_rfl) ?_
   obtain ⟨x12, hx12, h⟩ := bind_some h
   obtain ⟨ad12, cs12, hr12, hc12, hR⟩ := reads_index (Mo := []) tsl22 hs_p0 hx12
   obtain rfl := hR
   refine x_indexAddr (xv := .slice a_p0 (p0).length c_p0) (yv := Vi i_s8_l9) (.pointer (some ad12)) rfl rfl rfl rfl hr12 ?_
   refine x_load (xv := .pointer (some ad12)) (Vi x12) rfl rfl rfl (reads_cell0 tcell3 hc12 (fun _ h => by cases h)) ?_
   refine x_pure 1 [(33, .bool (x12 == 0))] _ _ _ (by kernel_rfl) ?_
   refine x_ek ?_
   refine c_cond (x12 == 0) rfl (fun hb => ?_) (fun hb => ?_)
   · replace h := ite_t hb h
     refine c_seq ?_
     refine c_sp ?_
     refine x_pure 2 [(34, .slice a_p2 (p2).length c_p2), (35, Vi i_s8_l9)] _ _ _ (by kernel_rfl) ?_
     obtain ⟨x14, hx14, h⟩ := bind_some h
     obtain ⟨ad14, cs14, hr14, hc14, hR⟩ := reads_index (Mo := []) tsl22 hs_p2 hx14
     obtain rfl := hR
     refine x_indexAddr (xv := .slice a_p2 (p2).length c_p2) (yv := Vi i_s8_l9) (.pointer (some ad14)) rfl rfl rfl rfl hr14 ?_
     refine x_load (xv := .pointer (some ad14)) (Vi x14) rfl rfl rfl (reads_cell0 tcell3 hc14 (fun _ h => by cases h)) ?_
     refine x_pure 1 [(38, .bool (x14 != (-1)))] _ _ _ (by kernel_rfl) ?_
     refine x_ek ?_
     refine c_cond (x14 != (-1)) rfl (fun hb => ?_) (fun hb => ?_)
     · replace h := ite_t hb h
       refine c_sp ?_
       refine x_pure 1 [(6, .bool false)] _ _ _ (by kernel_rfl) ?_
       refine x_ek ?_
       refine c_norm [(6, .bool false)] ⟨rfl, trivial⟩ (fun J => ?_)
       refine c_ret ?_
       refine k_then_ret ?_
       refine k_then_ret ?_
       refine k_block_ret ?_
       refine k_then_ret ?_
       have hx := some_inj h
       subst hx
       have hy := some_inj hn9
       subst hy
       replace h := h9
       refine k_then_ret ?_
       refine k_block_ret ?_
       refine k_then_ret ?_
       refine r_ret (r_vals [.bool false] ⟨rfl, trivial⟩ ?_)
       have hx := some_inj h
       subst hx
       have hmr : MS wl9 [M] := hms.pick [some 1] _ rfl
       have hsu : ∀ x ∈ fl [M], x ∈ fl [blk a7, M] := pick_sub [some 1] _ rfl
       exact ⟨rfl, hev⟩
     replace h := ite_f hb h
     refine c_skip ?_
     refine k_then ?_
     refine c_exit ?_
     refine k_then_exit ?_
     refine k_block_in ?_
     refine k_then ?_
     refine c_plain ?_
     refine x_pure 3 [(27, Vi i_s8_l9), (28, Vi (IntKind.i64.wrap (i_s8_l9 + 1))), (8, Vi (IntKind.i64.wrap (i_s8_l9 + 1)))] _ _ _ (by kernel_rfl) ?_
     refine x_end rfl ?_
     have hx := some_inj h
     subst hx
     exact k_then ⟨(m9, d8_l9, IntKind.i64.wrap (i_s8_l9 + 1)), ⟨rfl, rfl, rfl, rfl, rfl, trivial⟩, ⟨hn9, hev, hms, hfr, hs_p0, hs_p1, hs_p2, ho7⟩, Nat.lt_succ_self _⟩
   replace h := ite_f hb h
   refine c_skip ?_
   refine k_then ?_
   refine c_seq ?_
   refine c_seq ?_
   refine c_drawn [] [(0, false), (1, false), (2, false), (3, false), (4, false), (5, false), (6, false), (7, false), (8, false), (9, false), (10, false), (11, false), (12, false), (13, false), (14, false), (15, false), (16, false), (17, false), (18, false), (19, false), (20, false), (21, false), (22, false), (23, false), (24, false), (25, false), (26, false), (27, false), (28, false), (29, false), (30, false), (31, false), (32, false), (33, false), (34, false), (35, false), (36, false)] _ (by kernel_rfl) rfl ?_
   have hst := Stp.ext (ls := [blk a7, M]) (Ev.drew wl9)
   replace hs_p0 := hs_p0.step hst
   replace hs_p1 := hs_p1.step hst
   replace hs_p2 := hs_p2.step hst
   replace ho7 := ho7.step hst (Ev.drew wl9) nn2
   replace hms := hms.ev (Ev.drew wl9)
   replace hev := hev.ext (Ev.drew wl9)
   refine x_pure 2 [(39, .slice a_p2 (p2).length c_p2), (40, Vi i_s8_l9)] _ _ _ (by kernel_rfl) ?_
   obtain ⟨x16, hx16, h⟩ := bind_some h
   obtain ⟨ad16, cs16, hr16, hc16, hR⟩ := reads_index (Mo := []) tsl22 hs_p2 hx16
   obtain rfl := hR
   refine x_indexAddr (xv := .slice a_p2 (p2).length c_p2) (yv := Vi i_s8_l9) (.pointer (some ad16)) rfl rfl rfl rfl hr16 ?_
   refine x_load (xv := .pointer (some ad16)) (Vi x16) rfl rfl rfl (reads_cell0 tcell3 hc16 (fun _ h => by cases h)) ?_
   refine x_pure 2 [(43, .bool (decide (x16 < 0))), (44, .bool (decide (x16 < 0)))] _ _ _ (by kernel_rfl) ?_
   refine x_split 44 (decide (x16 < 0)) rfl (fun hb => ?_) (fun hb => ?_)
   · replace h := ite_t hb h
     refine x_pure 31 [(45, undef), (46, undef), (47, undef), (48, undef), (49, undef), (50, undef), (51, undef), (52, .bool true), (53, .bool true), (54, undef), (55, undef), (56, undef), (57, undef), (58, undef), (59, undef), (60, undef), (61, .bool true), (62, .bool true), (63, undef), (64, undef), (65, undef), (66, undef), (67, undef), (68, undef), (69, undef), (70, undef), (71, undef), (72, undef), (73, undef), (74, undef), (75, .bool true)] _ _ _ (by kernel_rfl) ?_
     refine x_ek ?_
     refine c_norm [(0, .slice a_p0 (p0).length c_p0), (1, .slice a_p1 (p1).length c_p1), (2, .slice a_p2 (p2).length c_p2), (7, .slice a7 (d8_l9).length c7), (8, Vi i_s8_l9), (75, .bool true)] ⟨rfl, rfl, rfl, rfl, rfl, rfl, trivial⟩ (fun J => ?_)
     refine c_true rfl ?_
     refine c_sp ?_
     refine x_pure 1 [(6, .bool false)] _ _ _ (by kernel_rfl) ?_
     refine x_ek ?_
     refine c_ret ?_
     refine k_then_ret ?_
     refine k_block_ret ?_
     refine k_then_ret ?_
     have hx := some_inj h
     subst hx
     have hy := some_inj hn9
     subst hy
     replace h := h9
     refine k_then_ret ?_
     refine k_block_ret ?_
     refine k_then_ret ?_
     refine r_ret (r_vals [.bool false] ⟨rfl, trivial⟩ ?_)
     have hx := some_inj h
     subst hx
     have hmr : MS (wl9).drew [M] := hms.pick [some 1] _ rfl
     have hsu : ∀ x ∈ fl [M], x ∈ fl [blk a7, M] := pick_sub [some 1] _ rfl
     exact ⟨rfl, hev⟩
   replace h := ite_f hb h
   refine x_pure 2 [(45, .slice a_p2 (p2).length c_p2), (46, Vi i_s8_l9)] _ _ _ (by kernel_rfl) ?_
   obtain ⟨x18, hx18, h⟩ := bind_some h
   obtain ⟨ad18, cs18, hr18, hc18, hR⟩ := reads_index (Mo := []) tsl22 hs_p2 hx18
   obtain rfl := hR
   refine x_indexAddr (xv := .slice a_p2 (p2).length c_p2) (yv := Vi i_s8_l9) (.pointer (some ad18)) rfl rfl rfl rfl hr18 ?_
   refine x_load (xv := .pointer (some ad18)) (Vi x18) rfl rfl rfl (reads_cell0 tcell3 hc18 (fun _ h => by cases h)) ?_
   refine x_pure 1 [(49, .slice a_p1 (p1).length c_p1)] _ _ _ (by kernel_rfl) ?_
   refine x_len (vs := [.slice a_p1 (p1).length c_p1]) (Vi ((p1).length : Int)) rfl rfl rfl (reads_len tsl22 _ _ _ _ _) ?_
   refine x_pure 3 [(51, .bool (decide (x18 ≥ ((p1).length : Int)))), (52, .bool (decide (x18 ≥ ((p1).length : Int)))), (53, .bool (decide (x18 ≥ ((p1).length : Int))))] _ _ _ (by kernel_rfl) ?_
   refine x_split 53 (decide (x18 ≥ ((p1).length : Int))) rfl (fun hb => ?_) (fun hb => ?_)
   · replace h := ite_t hb h
     refine x_pure 22 [(54, undef), (55, undef), (56, undef), (57, undef), (58, undef), (59, undef), (60, undef), (61, .bool true), (62, .bool true), (63, undef), (64, undef), (65, undef), (66, undef), (67, undef), (68, undef), (69, undef), (70, undef), (71, undef), (72, undef), (73, undef), (74, undef), (75, .bool true)] _ _ _ (by kernel_rfl) ?_
     refine x_ek ?_
     refine c_norm [(0, .slice a_p0 (p0).length c_p0), (1, .slice a_p1 (p1).length c_p1), (2, .slice a_p2 (p2).length c_p2), (7, .slice a7 (d8_l9).length c7), (8, Vi i_s8_l9), (75, .bool true)] ⟨rfl, rfl, rfl, rfl, rfl, rfl, trivial⟩ (fun J => ?_)
     refine c_true rfl ?_
     refine c_sp ?_
     refine x_pure 1 [(6, .bool false)] _ _ _ (by kernel_rfl) ?_
     refine x_ek ?_
     refine c_ret ?_
     refine k_then_ret ?_
     refine k_block_ret ?_
     refine k_then_ret ?_
     have hx := some_inj h
     subst hx
     have hy := some_inj hn9
     subst hy
     replace h := h9
     refine k_then_ret ?_
     refine k_block_ret ?_
     refine k_then_ret ?_
     refine r_ret (r_vals [.bool false] ⟨rfl, trivial⟩ ?_)
     have hx := some_inj h
     subst hx
     have hmr : MS (wl9).drew [M] := hms.pick [some 1] _ rfl
     have hsu : ∀ x ∈ fl [M], x ∈ fl [blk a7, M] := pick_sub [some 1] _ rfl
     exact ⟨rfl, hev⟩
   replace h := ite_f hb h
   refine x_pure 3 [(54, .slice a7 (d8_l9).length c7), (55, .slice a_p2 (p2).length c_p2), (56, Vi i_s8_l9)] _ _ _ (by kernel_rfl) ?_
   obtain ⟨x20, hx20, h⟩ := bind_some h
   obtain ⟨ad20, cs20, hr20, hc20, hR⟩ := reads_index (Mo := []) tsl22 hs_p2 hx20
   obtain rfl := hR
   refine x_indexAddr (xv := .slice a_p2 (p2).length c_p2) (yv := Vi i_s8_l9) (.pointer (some ad20)) rfl rfl rfl rfl hr20 ?_
   refine x_load (xv := .pointer (some ad20)) (Vi x20) rfl rfl rfl (reads_cell0 tcell3 hc20 (fun _ h => by cases h)) ?_
   obtain ⟨x22, hx22, h⟩ := bind_some h
   obtain ⟨g22, cs22, ha22, hr22, hc22, hR⟩ := own_index (Mo := []) tsl41 ho7 hx22
   obtain rfl := hR
   refine x_indexAddr (xv := .slice a7 (d8_l9).length c7) (yv := Vi x20) (.pointer (some ⟨g22, (Int.toNat x20) * eBool.n, none⟩)) rfl rfl rfl rfl hr22 ?_
   refine x_load (xv := .pointer (some ⟨g22, (Int.toNat x20) * eBool.n, none⟩)) (.bool x22) rfl rfl rfl (reads_cell0 tcell4 hc22 (fun _ h => by cases h)) ?_
   refine x_pure 2 [(61, .bool x22), (62, .bool x22)] _ _ _ (by kernel_rfl) ?_
   refine x_split 62 x22 rfl (fun hb => ?_) (fun hb => ?_)
   · replace h := ite_t hb h
     refine x_pure 13 [(63, undef), (64, undef), (65, undef), (66, undef), (67, undef), (68, undef), (69, undef), (70, undef), (71, undef), (72, undef), (73, undef), (74, undef), (75, .bool true)] _ _ _ (by kernel_rfl) ?_
     refine x_ek ?_
     refine c_norm [(0, .slice a_p0 (p0).length c_p0), (1, .slice a_p1 (p1).length c_p1), (2, .slice a_p2 (p2).length c_p2), (7, .slice a7 (d8_l9).length c7), (8, Vi i_s8_l9), (75, .bool true)] ⟨rfl, rfl, rfl, rfl, rfl, rfl, trivial⟩ (fun J => ?_)
     refine c_true rfl ?_
     refine c_sp ?_
     refine x_pure 1 [(6, .bool false)] _ _ _ (by kernel_rfl) ?_
     refine x_ek ?_
     refine c_ret ?_
     refine k_then_ret ?_
     refine k_block_ret ?_
     refine k_then_ret ?_
     have hx := some_inj h
     subst hx
     have hy := some_inj hn9
     subst hy
     replace h := h9
     refine k_then_ret ?_
     refine k_block_ret ?_
     refine k_then_ret ?_
     refine r_ret (r_vals [.bool false] ⟨rfl, trivial⟩ ?_)
     have hx := some_inj h
     subst hx
     have hmr : MS (wl9).drew [M] := hms.pick [some 1] _ rfl
     have hsu : ∀ x ∈ fl [M], x ∈ fl [blk a7, M] := pick_sub [some 1] _ rfl
     exact ⟨rfl, hev⟩
   replace h := ite_f hb h
   refine x_pure 3 [(63, .slice a_p1 (p1).length c_p1), (64, .slice a_p2 (p2).length c_p2), (65, Vi i_s8_l9)] _ _ _ (by kernel_rfl) ?_
   obtain ⟨x25, hx25, h⟩ := bind_some h
   obtain ⟨ad25, cs25, hr25, hc25, hR⟩ := reads_index (Mo := []) tsl22 hs_p2 hx25
   obtain rfl := hR
   refine x_indexAddr (xv := .slice a_p2 (p2).length c_p2) (yv := Vi i_s8_l9) (.pointer (some ad25)) rfl rfl rfl rfl hr25 ?_
   refine x_load (xv := .pointer (some ad25)) (Vi x25) rfl rfl rfl (reads_cell0 tcell3 hc25 (fun _ h => by cases h)) ?_
   obtain ⟨x27, hx27, h⟩ := bind_some h
   obtain ⟨ad27, cs27, hr27, hc27, hR⟩ := reads_index (Mo := []) tsl22 hs_p1 hx27
   obtain rfl := hR
   refine x_indexAddr (xv := .slice a_p1 (p1).length c_p1) (yv := Vi x25) (.pointer (some ad27)) rfl rfl rfl rfl hr27 ?_
   refine x_load (xv := .pointer (some ad27)) (Vi x27) rfl rfl rfl (reads_cell0 tcell3 hc27 (fun _ h => by cases h)) ?_
   refine x_pure 2 [(70, .slice a_p0 (p0).length c_p0), (71, Vi i_s8_l9)] _ _ _ (by kernel_rfl) ?_
   obtain ⟨x29, hx29, h⟩ := bind_some h
   obtain ⟨ad29, cs29, hr29, hc29, hR⟩ := reads_index (Mo := []) tsl22 hs_p0 hx29
   obtain rfl := hR
   refine x_indexAddr (xv := .slice a_p0 (p0).length c_p0) (yv := Vi i_s8_l9) (.pointer (some ad29)) rfl rfl rfl rfl hr29 ?_
   refine x_load (xv := .pointer (some ad29)) (Vi x29) rfl rfl rfl (reads_cell0 tcell3 hc29 (fun _ h => by cases h)) ?_
   refine x_pure 2 [(74, .bool (decide (x27 < x29))), (75, .bool (decide (x27 < x29)))] _ _ _ (by kernel_rfl) ?_
   refine x_ek ?_
   refine c_norm [(0, .slice a_p0 (p0).length c_p0), (1, .slice a_p1 (p1).length c_p1), (2, .slice a_p2 (p2).length c_p2), (7, .slice a7 (d8_l9).length c7), (8, Vi i_s8_l9), (75, .bool (decide (x27 < x29)))] ⟨rfl, rfl, rfl, rfl, rfl, rfl, trivial⟩ (fun J => ?_)
   refine c_cond (decide (x27 < x29)) rfl (fun hb => ?_) (fun hb => ?_)
   · replace h := ite_t hb h
     refine c_sp ?_
     refine x_pure 1 [(6, .bool false)] _ _ _ (by kernel_rfl) ?_
     refine x_ek ?_
     refine c_ret ?_
     refine k_then_ret ?_
     refine k_block_ret ?_
     refine k_then_ret ?_
     have hx := some_inj h
     subst hx
     have hy := some_inj hn9
     subst hy
     replace h := h9
     refine k_then_ret ?_
     refine k_block_ret ?_
     refine k_then_ret ?_
     refine r_ret (r_vals [.bool false] ⟨rfl, trivial⟩ ?_)
     have hx := some_inj h
     subst hx
     have hmr : MS (wl9).drew [M] := hms.pick [some 1] _ rfl
     have hsu : ∀ x ∈ fl [M], x ∈ fl [blk a7, M] := pick_sub [some 1] _ rfl
     exact ⟨rfl, hev⟩
   replace h := ite_f hb h
   refine c_skip ?_
   refine k_then ?_
   refine c_plain ?_
   refine x_pure 3 [(76, .slice a7 (d8_l9).length c7), (77, .slice a_p2 (p2).length c_p2), (78, Vi i_s8_l9)] _ _ _ (by kernel_rfl) ?_
   obtain ⟨x31, hx31, h⟩ := bind_some h
   obtain ⟨ad31, cs31, hr31, hc31, hR⟩ := reads_index (Mo := []) tsl22 hs_p2 hx31
   obtain rfl := hR
   refine x_indexAddr (xv := .slice a_p2 (p2).length c_p2) (yv := Vi i_s8_l9) (.pointer (some ad31)) rfl rfl rfl rfl hr31 ?_
   refine x_load (xv := .pointer (some ad31)) (Vi x31) rfl rfl rfl (reads_cell0 tcell3 hc31 (fun _ h => by cases h)) ?_
   obtain ⟨x33, hx33, h⟩ := bind_some h
   obtain ⟨g33, cs33, ha33, hr33, hc33, hR⟩ := own_index (Mo := []) tsl41 ho7 hx33
   obtain rfl := hR
   refine x_indexAddr (xv := .slice a7 (d8_l9).length c7) (yv := Vi x31) (.pointer (some ⟨g33, (Int.toNat x31) * eBool.n, none⟩)) rfl rfl rfl rfl hr33 ?_
   obtain ⟨w37, hr37, he37, ho37⟩ := own_storeE ha33 (y := true) 0 (.bool true) tcell4 ho7 (mem_flat 0 rfl) hx33 rfl rfl (fun _ _ _ hR => set_bool hR)
   refine x_store w37 (xv := .pointer (some ⟨g33, (Int.toNat x31) * eBool.n, none⟩)) (yv := .bool true) rfl rfl rfl rfl hr37 ?_
   refine inl1 ?_
   have hst := Stp.ev' (ls := [blk a7, M]) he37 (mem_flat 0 rfl)
   replace hs_p0 := hs_p0.step hst
   replace hs_p1 := hs_p1.step hst
   replace hs_p2 := hs_p2.step hst
   replace hc31 := hc31.step hst
   replace hms := hms.ev he37
   replace hev := hev.then he37 (fun b hb => .inr (hfr.at 0 rfl b hb))
   replace ho7 := ho37
   have hsl : (Value.slice a7 (d8_l9).length c7) = (Value.slice a7 ((d8_l9.set (Int.toNat x31) true)).length c7) := by first | (rw [List.length_set]; done) | simp only [List.length_set]
   try rw [hsl]
   clear hsl
   refine x_end rfl ?_
   refine k_block ?_
   refine k_then ?_
   refine c_plain ?_
   refine x_pure 3 [(27, Vi i_s8_l9), (28, Vi (IntKind.i64.wrap (i_s8_l9 + 1))), (8, Vi (IntKind.i64.wrap (i_s8_l9 + 1)))] _ _ _ (by kernel_rfl) ?_
   refine x_end rfl ?_
   have hx := some_inj h
   subst hx
   exact k_then ⟨(m9, (d8_l9.set (Int.toNat x31) true), IntKind.i64.wrap (i_s8_l9 + 1)), ⟨rfl, rfl, rfl, rfl, rfl, trivial⟩, ⟨hn9, hev, hms, hfr, hs_p0, hs_p1, hs_p2, ho7⟩, Nat.lt_succ_self _⟩
 replace h := ite_f hb h
 refine c_exit ?_
 refine k_then_exit ?_
 have hx := some_inj h
 subst hx
 have hy := some_inj hn9
 subst hy
 replace h := h9
 refine k_then_exit ?_
 refine k_block_in ?_
 refine k_then ?_
 refine c_norm [] trivial (fun J => ?_)
 refine c_sp ?_
 refine x_pure 1 [(6, .bool true)] _ _ _ (by kernel_rfl) ?_
 refine x_ek ?_
 refine c_ret ?_
 refine r_ret (r_vals [.bool true] ⟨rfl, trivial⟩ ?_)
 have hx := some_inj h
 subst hx
 have hmr : MS wl9 [M] := hms.pick [some 1] _ rfl
 have hsu : ∀ x ∈ fl [M], x ∈ fl [blk a7, M] := pick_sub [some 1] _ rfl
 exact ⟨rfl, hev⟩
def r16_Refuses_J12 (p0 : List Int) (least_s7_l8 : Int) (i_s8_l8 : Int) (x10 : Int) : Option (Step (Int × Int) (Unit ⊕ Int)) :=
((idx p0 x10).bind fun x17 =>
some (.next (if x17 < least_s7_l8 then x17 else least_s7_l8, IntKind.i64.wrap (i_s8_l8 + 1))))

def r16_Refuses_L20 (p1 : List Int) (least_s7_x801 : Int) (s : Int × Int) : Option (Step (Int × Int) Int) :=
match s with
| (n_s10_l20, v_t_s11_l20) =>
(if (decide (v_t_s11_l20 < ((p1).length : Int))) = true then
((idx p1 v_t_s11_l20).bind fun x22 =>
(if (decide (x22 ≥ least_s7_x801)) = true then
some (.next (IntKind.i64.wrap (n_s10_l20 + 1), IntKind.i64.wrap (v_t_s11_l20 + 1)))
else
some (.next (n_s10_l20, IntKind.i64.wrap (v_t_s11_l20 + 1)))))
else
some (.done n_s10_l20))

def r16_Refuses_L8 (p0 : List Int) (p2 : List Int) (s : Int × Int) : Option (Step (Int × Int) (Unit ⊕ Int)) :=
match s with
| (least_s7_l8, i_s8_l8) =>
(if (decide (i_s8_l8 < ((p2).length : Int))) = true then
((idx p2 i_s8_l8).bind fun x10 =>
(if (decide (x10 < 0)) = true then
some (.done (.inl ()))
else
(if (decide (x10 ≥ ((p0).length : Int))) = true then
some (.done (.inl ()))
else
((idx p0 x10).bind fun x13 =>
(if (x13 == 0) = true then
some (.done (.inl ()))
else
(if (decide (i_s8_l8 > 0)) = true then
((idx p2 (IntKind.i64.wrap (i_s8_l8 - 1))).bind fun x15 =>
(if (decide (x10 ≤ x15)) = true then
some (.done (.inl ()))
else
r16_Refuses_J12 p0 least_s7_l8 i_s8_l8 x10))
else
r16_Refuses_J12 p0 least_s7_l8 i_s8_l8 x10))))))
else
some (.done (.inr least_s7_l8)))

def r16_Refuses (p0 : List Int) (p1 : List Int) (p2 : List Int) : Option Bool :=
((r16_valid p0 p1).bind fun x5 =>
(if (x5 != 0) = true then
some false
else
(if (((p2).length : Int) == 0) = true then
some false
else
((loop (r16_Refuses_L8 p0 p2) (38400, 0)).bind fun d => match d with
| (.inl _) => some false
| (.inr least_s7_x801) => ((loop (r16_Refuses_L20 p1 least_s7_x801) (0, 0)).bind fun d => match d with
| n_s10_x20 => some (decide (n_s10_x20 < ((p2).length : Int))))))))

theorem r16_Refuses_w (a_p0 : Option Addr) (c_p0 : Nat) (p0 : List Int) (a_p1 : Option Addr) (c_p1 : Nat) (p1 : List Int) (a_p2 : Option Addr) (c_p2 : Nat) (p2 : List Int) (r : Bool) (w : World) (M : List Nat) (hms : MS w [M]) (hs_p0 : SlR (eInt .i64) w (fl [M]) a_p0 c_p0 p0) (hs_p1 : SlR (eInt .i64) w (fl [M]) a_p1 c_p1 p1) (hs_p2 : SlR (eInt .i64) w (fl [M]) a_p2 c_p2 p2) (h : r16_Refuses p0 p1 p2 = some r) : CallVC Try.prog 28 [.slice a_p0 (p0).length c_p0, .slice a_p1 (p1).length c_p1, .slice a_p2 (p2).length c_p2] w fun v w' => v = .bool r ∧ Ev [] w w' := by
 refine calls_vc hmx Try.func28 (by kernel_rfl) rfl (rs := [.tmp 6]) rfl (by kernel_rfl) (args := [.slice a_p0 (p0).length c_p0, .slice a_p1 (p1).length c_p1, .slice a_p2 (p2).length c_p2]) rfl ?_
 have hev : Ev [] w w := Ev.refl _ _
 have hfr : FR w.heap.size [] := FR.nil _
 refine c_sp ?_
 refine x_pure 1 [(6, .bool false)] _ _ _ (by kernel_rfl) ?_
 refine x_ek ?_
 refine c_seq ?_
 refine c_sp ?_
 refine x_pure 2 [(12, .slice a_p0 (p0).length c_p0), (13, .slice a_p1 (p1).length c_p1)] _ _ _ (by kernel_rfl) ?_
 obtain ⟨x5, hx, h⟩ := bind_some h
 have hpk : MS w ([] ++ [M]) := hms.pick [some 0] _ rfl
 have hsb0 : ∀ x ∈ fl ([] ++ [M]), x ∈ fl [M] := pick_sub [some 0] _ rfl
 have hsb : ∀ x ∈ fl ([] ++ [(fl [M])]), x ∈ fl [M] := fun x hx => hsb0 x (fl_unfold x hx)
 have hcall := r16_valid_w a_p0 c_p0 p0 a_p1 c_p1 p1 _ w (fl [M]) (MS.fold (P := []) hpk) (hs_p0.sub hsb) (hs_p1.sub hsb) hx
 refine x_call 26 #[] #[] [.slice a_p0 (p0).length c_p0, .slice a_p1 (p1).length c_p1] _ rfl rfl rfl rfl hcall ?_
 rintro v w6 ⟨rfl, he6⟩
 clear hcall hx
 refine inl1 ?_
 have hst := Stp.ext (ls := [M]) he6
 replace hs_p0 := hs_p0.step hst
 replace hs_p1 := hs_p1.step hst
 replace hs_p2 := hs_p2.step hst
 replace hms := hms.ev he6
 replace hev := hev.ext he6
 clear hpk hsb hsb0
 refine x_pure 2 [(15, .bool (x5 != 0)), (16, .bool (x5 != 0))] _ _ _ (by kernel_rfl) ?_
 refine x_split 16 (x5 != 0) rfl (fun hb => ?_) (fun hb => ?_)
 · replace h := ite_t hb h
   refine x_pure 4 [(17, undef), (18, undef), (19, undef), (20, .bool true)] _ _ _ (by kernel_rfl) ?_
   refine x_ek ?_
   refine c_true rfl ?_
   refine c_sp ?_
   refine x_pure 1 [(6, .bool false)] _ _ _ (by kernel_rfl) ?_
   refine x_ek ?_
   refine c_ret ?_
   refine k_then_ret ?_
   refine r_ret (r_vals [.bool false] ⟨rfl, trivial⟩ ?_)
   have hx := some_inj h
   subst hx
   have hmr : MS w6 [M] := hms.pick [some 0] _ rfl
   have hsu : ∀ x ∈ fl [M], x ∈ fl [M] := pick_sub [some 0] _ rfl
   exact ⟨rfl, hev⟩
 replace h := ite_f hb h
 refine x_pure 1 [(17, .slice a_p2 (p2).length c_p2)] _ _ _ (by kernel_rfl) ?_
 refine x_len (vs := [.slice a_p2 (p2).length c_p2]) (Vi ((p2).length : Int)) rfl rfl rfl (reads_len tsl22 _ _ _ _ _) ?_
 refine x_pure 2 [(19, .bool (((p2).length : Int) == 0)), (20, .bool (((p2).length : Int) == 0))] _ _ _ (by kernel_rfl) ?_
 refine x_ek ?_
 refine c_cond (((p2).length : Int) == 0) rfl (fun hb => ?_) (fun hb => ?_)
 · replace h := ite_t hb h
   refine c_sp ?_
   refine x_pure 1 [(6, .bool false)] _ _ _ (by kernel_rfl) ?_
   refine x_ek ?_
   refine c_ret ?_
   refine k_then_ret ?_
   refine r_ret (r_vals [.bool false] ⟨rfl, trivial⟩ ?_)
   have hx := some_inj h
   subst hx
   have hmr : MS w6 [M] := hms.pick [some 0] _ rfl
   have hsu : ∀ x ∈ fl [M], x ∈ fl [M] := pick_sub [some 0] _ rfl
   exact ⟨rfl, hev⟩
 replace h := ite_f hb h
 refine c_skip ?_
 refine k_then ?_
 refine c_sp ?_
 refine x_pure 1 [(7, Vi 38400)] _ _ _ (by kernel_rfl) ?_
 refine x_ek ?_
 refine c_seq ?_
 refine c_sp ?_
 refine x_pure 1 [(8, Vi 0)] _ _ _ (by kernel_rfl) ?_
 refine x_ek ?_
 refine c_norm [(0, .slice a_p0 (p0).length c_p0), (1, .slice a_p1 (p1).length c_p1), (2, .slice a_p2 (p2).length c_p2), (7, Vi 38400), (8, Vi 0)] ⟨rfl, rfl, rfl, rfl, rfl, trivial⟩ (fun J => ?_)
 refine c_block ?_
 obtain ⟨d8, hd8, h8⟩ := bind_some h
 obtain ⟨m8, hd8⟩ := loop_some hd8
 refine c_loop (loop_rule hmx (σ := Nat × Int × Int) (fun s => match s with | (_, least_s7_l8, i_s8_l8) => [(0, .slice a_p0 (p0).length c_p0), (1, .slice a_p1 (p1).length c_p1), (2, .slice a_p2 (p2).length c_p2), (7, Vi least_s7_l8), (8, Vi i_s8_l8)]) (fun s w' => match s with | (m, least_s7_l8, i_s8_l8) => loopN (r16_Refuses_L8 p0 p2) m (least_s7_l8, i_s8_l8) = some d8 ∧ Ev [] w w' ∧ MS w' [M] ∧ FR w.heap.size [] ∧ SlR (eInt .i64) w' (fl [M]) a_p0 c_p0 p0 ∧ SlR (eInt .i64) w' (fl [M]) a_p1 c_p1 p1 ∧ SlR (eInt .i64) w' (fl [M]) a_p2 c_p2 p2) (fun s => s.1) (m8, 38400, 0) ⟨rfl, rfl, rfl, rfl, rfl, trivial⟩ ⟨hd8, hev, hms, hfr, hs_p0, hs_p1, hs_p2⟩ ?_)
 rintro ⟨m8, least_s7_l8, i_s8_l8⟩ J wl8 ⟨hn8, hev, hms, hfr, hs_p0, hs_p1, hs_p2⟩
 rcases m8 with _ | m8
 · exact (loopN_zero hn8).elim
 obtain ⟨t8, h, hn8⟩ := bind_some hn8
 refine c_seq ?_
 refine c_sp ?_
 refine x_pure 2 [(21, Vi i_s8_l8), (22, .slice a_p2 (p2).length c_p2)] _ _ _ (by kernel_rfl) ?_
 refine x_len (vs := [.slice a_p2 (p2).length c_p2]) (Vi ((p2).length : Int)) rfl rfl rfl (reads_len tsl22 _ _ _ _ _) ?_
 refine x_pure 1 [(24, .bool (decide (i_s8_l8 < ((p2).length : Int))))] _ _ _ (by kernel_rfl) ?_
 refine x_ek ?_
 refine c_norm [(0, .slice a_p0 (p0).length c_p0), (1, .slice a_p1 (p1).length c_p1), (2, .slice a_p2 (p2).length c_p2), (7, Vi least_s7_l8), (8, Vi i_s8_l8), (24, .bool (decide (i_s8_l8 < ((p2).length : Int))))] ⟨rfl, rfl, rfl, rfl, rfl, rfl, trivial⟩ (fun J => ?_)
 refine c_cond (decide (i_s8_l8 < ((p2).length : Int))) rfl (fun hb => ?_) (fun hb => ?_)
 · replace h := ite_t hb h
   refine c_skip ?_
   refine k_then ?_
   refine c_seq ?_
   refine c_block ?_
   refine c_sp ?_
   refine x_pure 2 [(27, .slice a_p2 (p2).length c_p2), (28, Vi i_s8_l8)] _ _ _ (by kernel_rfl) ?_
   obtain ⟨x10, hx10, h⟩ := bind_some h
   obtain ⟨ad10, cs10, hr10, hc10, hR⟩ := reads_index (Mo := []) tsl22 hs_p2 hx10
   obtain rfl := hR
   refine x_indexAddr (xv := .slice a_p2 (p2).length c_p2) (yv := Vi i_s8_l8) (.pointer (some ad10)) rfl rfl rfl rfl hr10 ?_
   refine x_load (xv := .pointer (some ad10)) (Vi x10) rfl rfl rfl (reads_cell0 tcell3 hc10 (fun _ h => by cases h)) ?_
   refine x_pure 1 [(9, Vi x10)] _ _ _ (by kernel_rfl) ?_
   refine x_ek ?_
   refine c_join (σ := Unit) (fun s => match s with | _ => [(0, .slice a_p0 (p0).length c_p0), (1, .slice a_p1 (p1).length c_p1), (2, .slice a_p2 (p2).length c_p2), (7, Vi least_s7_l8), (8, Vi i_s8_l8), (9, Vi x10)]) (fun s w' => match s with | _ => r16_Refuses_J12 p0 least_s7_l8 i_s8_l8 x10 = some t8 ∧ Ev [] w w' ∧ MS w' [M] ∧ FR w.heap.size [] ∧ SlR (eInt .i64) w' (fl [M]) a_p0 c_p0 p0 ∧ SlR (eInt .i64) w' (fl [M]) a_p1 c_p1 p1 ∧ SlR (eInt .i64) w' (fl [M]) a_p2 c_p2 p2) ?_ ?_
   · refine c_sp ?_
     refine x_pure 3 [(31, Vi x10), (32, .bool (decide (x10 < 0))), (33, .bool (decide (x10 < 0)))] _ _ _ (by kernel_rfl) ?_
     refine x_split 33 (decide (x10 < 0)) rfl (fun hb => ?_) (fun hb => ?_)
     · replace h := ite_t hb h
       refine x_pure 25 [(34, undef), (35, undef), (36, undef), (37, undef), (38, .bool true), (39, .bool true), (40, undef), (41, undef), (42, undef), (43, undef), (44, undef), (45, .bool true), (46, .bool true), (47, undef), (48, undef), (49, undef), (50, undef), (51, undef), (52, undef), (53, undef), (54, undef), (55, undef), (56, undef), (57, undef), (58, .bool true)] _ _ _ (by kernel_rfl) ?_
       refine x_ek ?_
       refine c_norm [(0, .slice a_p0 (p0).length c_p0), (1, .slice a_p1 (p1).length c_p1), (2, .slice a_p2 (p2).length c_p2), (7, Vi least_s7_l8), (8, Vi i_s8_l8), (9, Vi x10), (58, .bool true)] ⟨rfl, rfl, rfl, rfl, rfl, rfl, rfl, trivial⟩ (fun J => ?_)
       refine c_true rfl ?_
       refine c_sp ?_
       refine x_pure 1 [(6, .bool false)] _ _ _ (by kernel_rfl) ?_
       refine x_ek ?_
       refine c_ret ?_
       refine k_then_ret ?_
       refine k_block_ret ?_
       refine k_then_ret ?_
       have hx := some_inj h
       subst hx
       have hy := some_inj hn8
       subst hy
       replace h := h8
       refine k_then_ret ?_
       refine k_block_ret ?_
       refine k_then_ret ?_
       refine r_ret (r_vals [.bool false] ⟨rfl, trivial⟩ ?_)
       have hx := some_inj h
       subst hx
       have hmr : MS wl8 [M] := hms.pick [some 0] _ rfl
       have hsu : ∀ x ∈ fl [M], x ∈ fl [M] := pick_sub [some 0] _ rfl
       exact ⟨rfl, hev⟩
     replace h := ite_f hb h
     refine x_pure 2 [(34, Vi x10), (35, .slice a_p0 (p0).length c_p0)] _ _ _ (by kernel_rfl) ?_
     refine x_len (vs := [.slice a_p0 (p0).length c_p0]) (Vi ((p0).length : Int)) rfl rfl rfl (reads_len tsl22 _ _ _ _ _) ?_
     refine x_pure 3 [(37, .bool (decide (x10 ≥ ((p0).length : Int)))), (38, .bool (decide (x10 ≥ ((p0).length : Int)))), (39, .bool (decide (x10 ≥ ((p0).length : Int))))] _ _ _ (by kernel_rfl) ?_
     refine x_split 39 (decide (x10 ≥ ((p0).length : Int))) rfl (fun hb => ?_) (fun hb => ?_)
     · replace h := ite_t hb h
       refine x_pure 19 [(40, undef), (41, undef), (42, undef), (43, undef), (44, undef), (45, .bool true), (46, .bool true), (47, undef), (48, undef), (49, undef), (50, undef), (51, undef), (52, undef), (53, undef), (54, undef), (55, undef), (56, undef), (57, undef), (58, .bool true)] _ _ _ (by kernel_rfl) ?_
       refine x_ek ?_
       refine c_norm [(0, .slice a_p0 (p0).length c_p0), (1, .slice a_p1 (p1).length c_p1), (2, .slice a_p2 (p2).length c_p2), (7, Vi least_s7_l8), (8, Vi i_s8_l8), (9, Vi x10), (58, .bool true)] ⟨rfl, rfl, rfl, rfl, rfl, rfl, rfl, trivial⟩ (fun J => ?_)
       refine c_true rfl ?_
       refine c_sp ?_
       refine x_pure 1 [(6, .bool false)] _ _ _ (by kernel_rfl) ?_
       refine x_ek ?_
       refine c_ret ?_
       refine k_then_ret ?_
       refine k_block_ret ?_
       refine k_then_ret ?_
       have hx := some_inj h
       subst hx
       have hy := some_inj hn8
       subst hy
       replace h := h8
       refine k_then_ret ?_
       refine k_block_ret ?_
       refine k_then_ret ?_
       refine r_ret (r_vals [.bool false] ⟨rfl, trivial⟩ ?_)
       have hx := some_inj h
       subst hx
       have hmr : MS wl8 [M] := hms.pick [some 0] _ rfl
       have hsu : ∀ x ∈ fl [M], x ∈ fl [M] := pick_sub [some 0] _ rfl
       exact ⟨rfl, hev⟩
     replace h := ite_f hb h
     refine x_pure 2 [(40, .slice a_p0 (p0).length c_p0), (41, Vi x10)] _ _ _ (by kernel_rfl) ?_
     obtain ⟨x13, hx13, h⟩ := bind_some h
     obtain ⟨ad13, cs13, hr13, hc13, hR⟩ := reads_index (Mo := []) tsl22 hs_p0 hx13
     obtain rfl := hR
     refine x_indexAddr (xv := .slice a_p0 (p0).length c_p0) (yv := Vi x10) (.pointer (some ad13)) rfl rfl rfl rfl hr13 ?_
     refine x_load (xv := .pointer (some ad13)) (Vi x13) rfl rfl rfl (reads_cell0 tcell3 hc13 (fun _ h => by cases h)) ?_
     refine x_pure 3 [(44, .bool (x13 == 0)), (45, .bool (x13 == 0)), (46, .bool (x13 == 0))] _ _ _ (by kernel_rfl) ?_
     refine x_split 46 (x13 == 0) rfl (fun hb => ?_) (fun hb => ?_)
     · replace h := ite_t hb h
       refine x_pure 12 [(47, undef), (48, undef), (49, undef), (50, undef), (51, undef), (52, undef), (53, undef), (54, undef), (55, undef), (56, undef), (57, undef), (58, .bool true)] _ _ _ (by kernel_rfl) ?_
       refine x_ek ?_
       refine c_norm [(0, .slice a_p0 (p0).length c_p0), (1, .slice a_p1 (p1).length c_p1), (2, .slice a_p2 (p2).length c_p2), (7, Vi least_s7_l8), (8, Vi i_s8_l8), (9, Vi x10), (58, .bool true)] ⟨rfl, rfl, rfl, rfl, rfl, rfl, rfl, trivial⟩ (fun J => ?_)
       refine c_true rfl ?_
       refine c_sp ?_
       refine x_pure 1 [(6, .bool false)] _ _ _ (by kernel_rfl) ?_
       refine x_ek ?_
       refine c_ret ?_
       refine k_then_ret ?_
       refine k_block_ret ?_
       refine k_then_ret ?_
       have hx := some_inj h
       subst hx
       have hy := some_inj hn8
       subst hy
       replace h := h8
       refine k_then_ret ?_
       refine k_block_ret ?_
       refine k_then_ret ?_
       refine r_ret (r_vals [.bool false] ⟨rfl, trivial⟩ ?_)
       have hx := some_inj h
       subst hx
       have hmr : MS wl8 [M] := hms.pick [some 0] _ rfl
       have hsu : ∀ x ∈ fl [M], x ∈ fl [M] := pick_sub [some 0] _ rfl
       exact ⟨rfl, hev⟩
     replace h := ite_f hb h
     refine x_pure 3 [(47, Vi i_s8_l8), (48, .bool (decide (i_s8_l8 > 0))), (49, .bool (decide (i_s8_l8 > 0)))] _ _ _ (by kernel_rfl) ?_
     refine x_split 49 (decide (i_s8_l8 > 0)) rfl (fun hb => ?_) (fun hb => ?_)
     · replace h := ite_t hb h
       refine x_pure 4 [(50, Vi x10), (51, .slice a_p2 (p2).length c_p2), (52, Vi i_s8_l8), (53, Vi (IntKind.i64.wrap (i_s8_l8 - 1)))] _ _ _ (by kernel_rfl) ?_
       obtain ⟨x15, hx15, h⟩ := bind_some h
       obtain ⟨ad15, cs15, hr15, hc15, hR⟩ := reads_index (Mo := []) tsl22 hs_p2 hx15
       obtain rfl := hR
       refine x_indexAddr (xv := .slice a_p2 (p2).length c_p2) (yv := Vi (IntKind.i64.wrap (i_s8_l8 - 1))) (.pointer (some ad15)) rfl rfl rfl rfl hr15 ?_
       refine x_load (xv := .pointer (some ad15)) (Vi x15) rfl rfl rfl (reads_cell0 tcell3 hc15 (fun _ h => by cases h)) ?_
       refine x_pure 3 [(56, .bool (decide (x10 ≤ x15))), (57, .bool (decide (x10 ≤ x15))), (58, .bool (decide (x10 ≤ x15)))] _ _ _ (by kernel_rfl) ?_
       refine x_ek ?_
       refine c_norm [(0, .slice a_p0 (p0).length c_p0), (1, .slice a_p1 (p1).length c_p1), (2, .slice a_p2 (p2).length c_p2), (7, Vi least_s7_l8), (8, Vi i_s8_l8), (9, Vi x10), (58, .bool (decide (x10 ≤ x15)))] ⟨rfl, rfl, rfl, rfl, rfl, rfl, rfl, trivial⟩ (fun J => ?_)
       refine c_cond (decide (x10 ≤ x15)) rfl (fun hb => ?_) (fun hb => ?_)
       · replace h := ite_t hb h
         refine c_sp ?_
         refine x_pure 1 [(6, .bool false)] _ _ _ (by kernel_rfl) ?_
         refine x_ek ?_
         refine c_ret ?_
         refine k_then_ret ?_
         refine k_block_ret ?_
         refine k_then_ret ?_
         have hx := some_inj h
         subst hx
         have hy := some_inj hn8
         subst hy
         replace h := h8
         refine k_then_ret ?_
         refine k_block_ret ?_
         refine k_then_ret ?_
         refine r_ret (r_vals [.bool false] ⟨rfl, trivial⟩ ?_)
         have hx := some_inj h
         subst hx
         have hmr : MS wl8 [M] := hms.pick [some 0] _ rfl
         have hsu : ∀ x ∈ fl [M], x ∈ fl [M] := pick_sub [some 0] _ rfl
         exact ⟨rfl, hev⟩
       replace h := ite_f hb h
       refine c_skip ?_
       exact k_then ⟨(), ⟨rfl, rfl, rfl, rfl, rfl, rfl, trivial⟩, h, hev, hms, hfr, hs_p0, hs_p1, hs_p2⟩
     replace h := ite_f hb h
     refine x_pure 9 [(50, undef), (51, undef), (52, undef), (53, undef), (54, undef), (55, undef), (56, undef), (57, .bool false), (58, .bool false)] _ _ _ (by kernel_rfl) ?_
     refine x_ek ?_
     refine c_norm [(0, .slice a_p0 (p0).length c_p0), (1, .slice a_p1 (p1).length c_p1), (2, .slice a_p2 (p2).length c_p2), (7, Vi least_s7_l8), (8, Vi i_s8_l8), (9, Vi x10), (58, .bool false)] ⟨rfl, rfl, rfl, rfl, rfl, rfl, rfl, trivial⟩ (fun J => ?_)
     refine c_false rfl ?_
     refine c_skip ?_
     exact k_then ⟨(), ⟨rfl, rfl, rfl, rfl, rfl, rfl, trivial⟩, h, hev, hms, hfr, hs_p0, hs_p1, hs_p2⟩
   rintro _ J wj12 ⟨h, hev, hms, hfr, hs_p0, hs_p1, hs_p2⟩
   refine c_plain ?_
   refine x_pure 3 [(59, Vi least_s7_l8), (60, .slice a_p0 (p0).length c_p0), (61, Vi x10)] _ _ _ (by kernel_rfl) ?_
   obtain ⟨x17, hx17, h⟩ := bind_some h
   obtain ⟨ad17, cs17, hr17, hc17, hR⟩ := reads_index (Mo := []) tsl22 hs_p0 hx17
   obtain rfl := hR
   refine x_indexAddr (xv := .slice a_p0 (p0).length c_p0) (yv := Vi x10) (.pointer (some ad17)) rfl rfl rfl rfl hr17 ?_
   refine x_load (xv := .pointer (some ad17)) (Vi x17) rfl rfl rfl (reads_cell0 tcell3 hc17 (fun _ h => by cases h)) ?_
   refine x_min (vs := [Vi least_s7_l8, Vi x17]) (Vi (if x17 < least_s7_l8 then x17 else least_s7_l8)) rfl rfl rfl (fun _ _ => rfl) ?_
   refine x_pure 1 [(7, Vi (if x17 < least_s7_l8 then x17 else least_s7_l8))] _ _ _ (by kernel_rfl) ?_
   refine x_end rfl ?_
   refine k_block ?_
   refine k_then ?_
   refine c_norm [(0, .slice a_p0 (p0).length c_p0), (1, .slice a_p1 (p1).length c_p1), (2, .slice a_p2 (p2).length c_p2), (7, Vi (if x17 < least_s7_l8 then x17 else least_s7_l8)), (8, Vi i_s8_l8)] ⟨rfl, rfl, rfl, rfl, rfl, trivial⟩ (fun J => ?_)
   refine c_plain ?_
   refine x_pure 3 [(25, Vi i_s8_l8), (26, Vi (IntKind.i64.wrap (i_s8_l8 + 1))), (8, Vi (IntKind.i64.wrap (i_s8_l8 + 1)))] _ _ _ (by kernel_rfl) ?_
   refine x_end rfl ?_
   have hx := some_inj h
   subst hx
   exact k_then ⟨(m8, if x17 < least_s7_l8 then x17 else least_s7_l8, IntKind.i64.wrap (i_s8_l8 + 1)), ⟨rfl, rfl, rfl, rfl, rfl, trivial⟩, ⟨hn8, hev, hms, hfr, hs_p0, hs_p1, hs_p2⟩, Nat.lt_succ_self _⟩
 replace h := ite_f hb h
 refine c_exit ?_
 refine k_then_exit ?_
 have hx := some_inj h
 subst hx
 have hy := some_inj hn8
 subst hy
 replace h := h8
 refine k_then_exit ?_
 refine k_block_in ?_
 refine k_then ?_
 refine c_norm [(1, .slice a_p1 (p1).length c_p1), (2, .slice a_p2 (p2).length c_p2), (7, Vi least_s7_l8)] ⟨rfl, rfl, rfl, trivial⟩ (fun J => ?_)
 refine c_sp ?_
 refine x_pure 1 [(10, Vi 0)] _ _ _ (by kernel_rfl) ?_
 refine x_ek ?_
 refine c_seq ?_
 refine c_sp ?_
 refine x_pure 1 [(11, Vi 0)] _ _ _ (by kernel_rfl) ?_
 refine x_ek ?_
 refine c_block ?_
 obtain ⟨d20, hd20, h20⟩ := bind_some h
 obtain ⟨m20, hd20⟩ := loop_some hd20
 refine c_loop (loop_rule hmx (σ := Nat × Int × Int) (fun s => match s with | (_, n_s10_l20, v_t_s11_l20) => [(1, .slice a_p1 (p1).length c_p1), (2, .slice a_p2 (p2).length c_p2), (7, Vi least_s7_l8), (10, Vi n_s10_l20), (11, Vi v_t_s11_l20)]) (fun s w' => match s with | (m, n_s10_l20, v_t_s11_l20) => loopN (r16_Refuses_L20 p1 least_s7_l8) m (n_s10_l20, v_t_s11_l20) = some d20 ∧ Ev [] w w' ∧ MS w' [M] ∧ FR w.heap.size [] ∧ SlR (eInt .i64) w' (fl [M]) a_p1 c_p1 p1 ∧ SlR (eInt .i64) w' (fl [M]) a_p2 c_p2 p2) (fun s => s.1) (m20, 0, 0) ⟨rfl, rfl, rfl, rfl, rfl, trivial⟩ ⟨hd20, hev, hms, hfr, hs_p1, hs_p2⟩ ?_)
 rintro ⟨m20, n_s10_l20, v_t_s11_l20⟩ J wl20 ⟨hn20, hev, hms, hfr, hs_p1, hs_p2⟩
 rcases m20 with _ | m20
 · exact (loopN_zero hn20).elim
 obtain ⟨t20, h, hn20⟩ := bind_some hn20
 refine c_seq ?_
 refine c_sp ?_
 refine x_pure 2 [(65, Vi v_t_s11_l20), (66, .slice a_p1 (p1).length c_p1)] _ _ _ (by kernel_rfl) ?_
 refine x_len (vs := [.slice a_p1 (p1).length c_p1]) (Vi ((p1).length : Int)) rfl rfl rfl (reads_len tsl22 _ _ _ _ _) ?_
 refine x_pure 1 [(68, .bool (decide (v_t_s11_l20 < ((p1).length : Int))))] _ _ _ (by kernel_rfl) ?_
 refine x_ek ?_
 refine c_norm [(1, .slice a_p1 (p1).length c_p1), (2, .slice a_p2 (p2).length c_p2), (7, Vi least_s7_l8), (10, Vi n_s10_l20), (11, Vi v_t_s11_l20), (68, .bool (decide (v_t_s11_l20 < ((p1).length : Int))))] ⟨rfl, rfl, rfl, rfl, rfl, rfl, trivial⟩ (fun J => ?_)
 refine c_cond (decide (v_t_s11_l20 < ((p1).length : Int))) rfl (fun hb => ?_) (fun hb => ?_)
 · replace h := ite_t hb h
   refine c_skip ?_
   refine k_then ?_
   refine c_seq ?_
   refine c_block ?_
   refine c_sp ?_
   refine x_pure 2 [(71, .slice a_p1 (p1).length c_p1), (72, Vi v_t_s11_l20)] _ _ _ (by kernel_rfl) ?_
   obtain ⟨x22, hx22, h⟩ := bind_some h
   obtain ⟨ad22, cs22, hr22, hc22, hR⟩ := reads_index (Mo := []) tsl22 hs_p1 hx22
   obtain rfl := hR
   refine x_indexAddr (xv := .slice a_p1 (p1).length c_p1) (yv := Vi v_t_s11_l20) (.pointer (some ad22)) rfl rfl rfl rfl hr22 ?_
   refine x_load (xv := .pointer (some ad22)) (Vi x22) rfl rfl rfl (reads_cell0 tcell3 hc22 (fun _ h => by cases h)) ?_
   refine x_pure 2 [(75, Vi least_s7_l8), (76, .bool (decide (x22 ≥ least_s7_l8)))] _ _ _ (by kernel_rfl) ?_
   refine x_ek ?_
   refine c_cond (decide (x22 ≥ least_s7_l8)) rfl (fun hb => ?_) (fun hb => ?_)
   · replace h := ite_t hb h
     refine c_plain ?_
     refine x_pure 3 [(77, Vi n_s10_l20), (78, Vi (IntKind.i64.wrap (n_s10_l20 + 1))), (10, Vi (IntKind.i64.wrap (n_s10_l20 + 1)))] _ _ _ (by kernel_rfl) ?_
     refine x_end rfl ?_
     refine k_block ?_
     refine k_then ?_
     refine c_plain ?_
     refine x_pure 3 [(69, Vi v_t_s11_l20), (70, Vi (IntKind.i64.wrap (v_t_s11_l20 + 1))), (11, Vi (IntKind.i64.wrap (v_t_s11_l20 + 1)))] _ _ _ (by kernel_rfl) ?_
     refine x_end rfl ?_
     have hx := some_inj h
     subst hx
     exact k_then ⟨(m20, IntKind.i64.wrap (n_s10_l20 + 1), IntKind.i64.wrap (v_t_s11_l20 + 1)), ⟨rfl, rfl, rfl, rfl, rfl, trivial⟩, ⟨hn20, hev, hms, hfr, hs_p1, hs_p2⟩, Nat.lt_succ_self _⟩
   replace h := ite_f hb h
   refine c_skip ?_
   refine k_block ?_
   refine k_then ?_
   refine c_plain ?_
   refine x_pure 3 [(69, Vi v_t_s11_l20), (70, Vi (IntKind.i64.wrap (v_t_s11_l20 + 1))), (11, Vi (IntKind.i64.wrap (v_t_s11_l20 + 1)))] _ _ _ (by kernel_rfl) ?_
   refine x_end rfl ?_
   have hx := some_inj h
   subst hx
   exact k_then ⟨(m20, n_s10_l20, IntKind.i64.wrap (v_t_s11_l20 + 1)), ⟨rfl, rfl, rfl, rfl, rfl, trivial⟩, ⟨hn20, hev, hms, hfr, hs_p1, hs_p2⟩, Nat.lt_succ_self _⟩
 replace h := ite_f hb h
 refine c_exit ?_
 refine k_then_exit ?_
 have hx := some_inj h
 subst hx
 have hy := some_inj hn20
 subst hy
 replace h := h20
 refine k_then_exit ?_
 refine k_block_in ?_
 refine k_then ?_
 refine c_norm [(2, .slice a_p2 (p2).length c_p2), (10, Vi n_s10_l20)] ⟨rfl, rfl, trivial⟩ (fun J => ?_)
 refine c_sp ?_
 refine x_pure 2 [(79, Vi n_s10_l20), (80, .slice a_p2 (p2).length c_p2)] _ _ _ (by kernel_rfl) ?_
 refine x_len (vs := [.slice a_p2 (p2).length c_p2]) (Vi ((p2).length : Int)) rfl rfl rfl (reads_len tsl22 _ _ _ _ _) ?_
 refine x_pure 2 [(82, .bool (decide (n_s10_l20 < ((p2).length : Int)))), (6, .bool (decide (n_s10_l20 < ((p2).length : Int))))] _ _ _ (by kernel_rfl) ?_
 refine x_ek ?_
 refine c_ret ?_
 refine r_ret (r_vals [.bool (decide (n_s10_l20 < ((p2).length : Int)))] ⟨rfl, trivial⟩ ?_)
 have hx := some_inj h
 subst hx
 have hmr : MS wl20 [M] := hms.pick [some 0] _ rfl
 have hsu : ∀ x ∈ fl [M], x ∈ fl [M] := pick_sub [some 0] _ rfl
 exact ⟨rfl, hev⟩
end Go.Proofs.Ytdbomhhcebmkpaa
