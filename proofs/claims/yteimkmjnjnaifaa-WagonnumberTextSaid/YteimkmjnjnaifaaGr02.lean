/- Walks, printed by program: each function returns what the partial function of the same name returns. Conditions: those of each theorem. -/
import Derived.Test.YteimkmjnjnaifaaGT
set_option linter.unusedVariables false
set_option linter.unusedSimpArgs false
set_option maxRecDepth 4000
namespace Go.Proofs.Yteimkmjnjnaifaa
open Go Go.V Go.Proofs
def r02_digits_L2 (p0 : List UInt8) (p1 : Int) (s : Int) : Option (Step Int (Unit ⊕ Unit)) :=
match s with
| i_s5_l2 =>
(if (decide (i_s5_l2 < p1)) = true then
((sAt p0 i_s5_l2).bind fun x4 =>
(if (decide (x4 < 48)) = true then
some (.done (.inl ()))
else
((sAt p0 i_s5_l2).bind fun x5 =>
(if (decide (x5 > 57)) = true then
some (.done (.inl ()))
else
some (.next (IntKind.i64.wrap (i_s5_l2 + 1)))))))
else
some (.done (.inr ())))

def r02_digits (p0 : List UInt8) (p1 : Int) : Option Bool :=
(if ((p0.length : Int) != p1) = true then
some false
else
((loop (r02_digits_L2 p0 p1) 0).bind fun d => match d with
| (.inl _) => some false
| (.inr _) => some true))

theorem r02_digits_w (p0 : List UInt8) (p1 : Int) (r : Bool) (w : World) (h : r02_digits p0 p1 = some r) : CallVC Try.prog 34 [Vs p0, Vi p1] w fun v w' => v = .bool r ∧ Ev [] w w' := by
 refine calls_vc hmx Try.func34 (by kernel_rfl) rfl (rs := [.tmp 4]) rfl (by kernel_rfl) (args := [Vs p0, Vi p1]) rfl ?_
 have hev : Ev [] w w := Ev.refl _ _
 have hms : MS w [[]] := ⟨List.pairwise_singleton _ _, fun l hl b hb => by simp only [List.mem_singleton] at hl; subst hl; cases hb⟩
 have hfr : FR w.heap.size [] := FR.nil _
 refine c_sp ?_
 refine x_pure 1 [(4, .bool false)] _ _ _ (by kernel_rfl) ?_
 refine x_ek ?_
 refine c_seq ?_
 refine c_sp ?_
 refine x_pure 1 [(6, Vs p0)] _ _ _ (by kernel_rfl) ?_
 refine x_len (vs := [Vs p0]) (Vi (p0.length : Int)) rfl rfl rfl (reads_slen tstr9 _) ?_
 refine x_pure 2 [(8, Vi p1), (9, .bool ((p0.length : Int) != p1))] _ _ _ (by kernel_rfl) ?_
 refine x_ek ?_
 refine c_cond ((p0.length : Int) != p1) rfl (fun hb => ?_) (fun hb => ?_)
 · replace h := ite_t hb h
   refine c_sp ?_
   refine x_pure 1 [(4, .bool false)] _ _ _ (by kernel_rfl) ?_
   refine x_ek ?_
   refine c_ret ?_
   refine k_then_ret ?_
   refine r_ret (r_vals [.bool false] ⟨rfl, trivial⟩ ?_)
   have hx := some_inj h
   subst hx
   exact ⟨rfl, hev⟩
 replace h := ite_f hb h
 refine c_skip ?_
 refine k_then ?_
 refine c_seq ?_
 refine c_sp ?_
 refine x_pure 1 [(5, Vi 0)] _ _ _ (by kernel_rfl) ?_
 refine x_ek ?_
 refine c_block ?_
 obtain ⟨d2, hd2, h2⟩ := bind_some h
 obtain ⟨m2, hd2⟩ := loop_some hd2
 refine c_loop (loop_rule hmx (σ := Nat × Int) (fun s => match s with | (_, i_s5_l2) => [(0, Vs p0), (1, Vi p1), (5, Vi i_s5_l2)]) (fun s w' => match s with | (m, i_s5_l2) => loopN (r02_digits_L2 p0 p1) m i_s5_l2 = some d2 ∧ Ev [] w w' ∧ MS w' [[]] ∧ FR w.heap.size []) (fun s => s.1) (m2, 0) ⟨rfl, rfl, rfl, trivial⟩ ⟨hd2, hev, hms, hfr⟩ ?_)
 rintro ⟨m2, i_s5_l2⟩ J wl2 ⟨hn2, hev, hms, hfr⟩
 rcases m2 with _ | m2
 · exact (loopN_zero hn2).elim
 obtain ⟨t2, h, hn2⟩ := bind_some hn2
 refine c_seq ?_
 refine c_sp ?_
 refine x_pure 3 [(10, Vi i_s5_l2), (11, Vi p1), (12, .bool (decide (i_s5_l2 < p1)))] _ _ _ (by kernel_rfl) ?_
 refine x_ek ?_
 refine c_norm [(0, Vs p0), (1, Vi p1), (5, Vi i_s5_l2), (12, .bool (decide (i_s5_l2 < p1)))] ⟨rfl, rfl, rfl, rfl, trivial⟩ (fun J => ?_)
 refine c_cond (decide (i_s5_l2 < p1)) rfl (fun hb => ?_) (fun hb => ?_)
 · replace h := ite_t hb h
   refine c_skip ?_
   refine k_then ?_
   refine c_seq ?_
   refine c_block ?_
   refine c_sp ?_
   refine x_pure 2 [(15, Vs p0), (16, Vi i_s5_l2)] _ _ _ (by kernel_rfl) ?_
   obtain ⟨x4, hx4, h⟩ := bind_some h
   refine x_index (xv := Vs p0) (yv := Vi i_s5_l2) (.int .u8 x4) rfl rfl rfl rfl (reads_sindex tstr9 hx4) ?_
   refine x_pure 2 [(18, .bool (decide (x4 < 48))), (19, .bool (decide (x4 < 48)))] _ _ _ (by kernel_rfl) ?_
   refine x_split 19 (decide (x4 < 48)) rfl (fun hb => ?_) (fun hb => ?_)
   · replace h := ite_t hb h
     refine x_pure 5 [(20, undef), (21, undef), (22, undef), (23, undef), (24, .bool true)] _ _ _ (by kernel_rfl) ?_
     refine x_ek ?_
     refine c_true rfl ?_
     refine c_sp ?_
     refine x_pure 1 [(4, .bool false)] _ _ _ (by kernel_rfl) ?_
     refine x_ek ?_
     refine c_ret ?_
     refine k_block_ret ?_
     refine k_then_ret ?_
     have hx := some_inj h
     subst hx
     have hy := some_inj hn2
     subst hy
     replace h := h2
     refine k_then_ret ?_
     refine k_block_ret ?_
     refine k_then_ret ?_
     refine r_ret (r_vals [.bool false] ⟨rfl, trivial⟩ ?_)
     have hx := some_inj h
     subst hx
     exact ⟨rfl, hev⟩
   replace h := ite_f hb h
   refine x_pure 2 [(20, Vs p0), (21, Vi i_s5_l2)] _ _ _ (by kernel_rfl) ?_
   obtain ⟨x5, hx5, h⟩ := bind_some h
   refine x_index (xv := Vs p0) (yv := Vi i_s5_l2) (.int .u8 x5) rfl rfl rfl rfl (reads_sindex tstr9 hx5) ?_
   refine x_pure 2 [(23, .bool (decide (x5 > 57))), (24, .bool (decide (x5 > 57)))] _ _ _ (by kernel_rfl) ?_
   refine x_ek ?_
   refine c_cond (decide (x5 > 57)) rfl (fun hb => ?_) (fun hb => ?_)
   · replace h := ite_t hb h
     refine c_sp ?_
     refine x_pure 1 [(4, .bool false)] _ _ _ (by kernel_rfl) ?_
     refine x_ek ?_
     refine c_norm [(4, .bool false)] ⟨rfl, trivial⟩ (fun J => ?_)
     refine c_ret ?_
     refine k_block_ret ?_
     refine k_then_ret ?_
     have hx := some_inj h
     subst hx
     have hy := some_inj hn2
     subst hy
     replace h := h2
     refine k_then_ret ?_
     refine k_block_ret ?_
     refine k_then_ret ?_
     refine r_ret (r_vals [.bool false] ⟨rfl, trivial⟩ ?_)
     have hx := some_inj h
     subst hx
     exact ⟨rfl, hev⟩
   replace h := ite_f hb h
   refine c_skip ?_
   refine k_block ?_
   refine k_then ?_
   refine c_plain ?_
   refine x_pure 3 [(13, Vi i_s5_l2), (14, Vi (IntKind.i64.wrap (i_s5_l2 + 1))), (5, Vi (IntKind.i64.wrap (i_s5_l2 + 1)))] _ _ _ (by kernel_rfl) ?_
   refine x_end rfl ?_
   have hx := some_inj h
   subst hx
   exact k_then ⟨(m2, IntKind.i64.wrap (i_s5_l2 + 1)), ⟨rfl, rfl, rfl, trivial⟩, ⟨hn2, hev, hms, hfr⟩, Nat.lt_succ_self _⟩
 replace h := ite_f hb h
 refine c_exit ?_
 refine k_then_exit ?_
 have hx := some_inj h
 subst hx
 have hy := some_inj hn2
 subst hy
 replace h := h2
 refine k_then_exit ?_
 refine k_block_in ?_
 refine k_then ?_
 refine c_norm [] trivial (fun J => ?_)
 refine c_sp ?_
 refine x_pure 1 [(4, .bool true)] _ _ _ (by kernel_rfl) ?_
 refine x_ek ?_
 refine c_ret ?_
 refine r_ret (r_vals [.bool true] ⟨rfl, trivial⟩ ?_)
 have hx := some_inj h
 subst hx
 exact ⟨rfl, hev⟩
def r02_sum_L1 (p0 : List UInt8) (p1 : Int) (s : Int × Int) : Option (Step (Int × Int) Int) :=
match s with
| (v_t_s5_l1, i_s6_l1) =>
(if (decide (i_s6_l1 < p1)) = true then
((sAt p0 i_s6_l1).bind fun x3 =>
(if ((Int.tmod i_s6_l1 2) == 0) = true then
(if (decide ((IntKind.i64.wrap ((IntKind.i64.wrap (IntKind.u8.wrap (x3 - 48))) * 2)) > 9)) = true then
some (.next (IntKind.i64.wrap (v_t_s5_l1 + (IntKind.i64.wrap ((IntKind.i64.wrap ((IntKind.i64.wrap (IntKind.u8.wrap (x3 - 48))) * 2)) - 9))), IntKind.i64.wrap (i_s6_l1 + 1)))
else
some (.next (IntKind.i64.wrap (v_t_s5_l1 + (IntKind.i64.wrap ((IntKind.i64.wrap (IntKind.u8.wrap (x3 - 48))) * 2))), IntKind.i64.wrap (i_s6_l1 + 1))))
else
some (.next (IntKind.i64.wrap (v_t_s5_l1 + (IntKind.i64.wrap (IntKind.u8.wrap (x3 - 48)))), IntKind.i64.wrap (i_s6_l1 + 1)))))
else
some (.done v_t_s5_l1))

def r02_sum (p0 : List UInt8) (p1 : Int) : Option Int :=
((loop (r02_sum_L1 p0 p1) (0, 0)).bind fun d => match d with
| v_t_s5_x1 => some v_t_s5_x1)

theorem r02_sum_w (p0 : List UInt8) (p1 : Int) (r : Int) (w : World) (h : r02_sum p0 p1 = some r) : CallVC Try.prog 35 [Vs p0, Vi p1] w fun v w' => v = Vi r ∧ Ev [] w w' := by
 refine calls_vc hmx Try.func35 (by kernel_rfl) rfl (rs := [.tmp 4]) rfl (by kernel_rfl) (args := [Vs p0, Vi p1]) rfl ?_
 have hev : Ev [] w w := Ev.refl _ _
 have hms : MS w [[]] := ⟨List.pairwise_singleton _ _, fun l hl b hb => by simp only [List.mem_singleton] at hl; subst hl; cases hb⟩
 have hfr : FR w.heap.size [] := FR.nil _
 refine c_sp ?_
 refine x_pure 1 [(4, Vi 0)] _ _ _ (by kernel_rfl) ?_
 refine x_ek ?_
 refine c_sp ?_
 refine x_pure 1 [(5, Vi 0)] _ _ _ (by kernel_rfl) ?_
 refine x_ek ?_
 refine c_seq ?_
 refine c_sp ?_
 refine x_pure 1 [(6, Vi 0)] _ _ _ (by kernel_rfl) ?_
 refine x_ek ?_
 refine c_block ?_
 obtain ⟨d1, hd1, h1⟩ := bind_some h
 obtain ⟨m1, hd1⟩ := loop_some hd1
 refine c_loop (loop_rule hmx (σ := Nat × Int × Int) (fun s => match s with | (_, v_t_s5_l1, i_s6_l1) => [(0, Vs p0), (1, Vi p1), (5, Vi v_t_s5_l1), (6, Vi i_s6_l1)]) (fun s w' => match s with | (m, v_t_s5_l1, i_s6_l1) => loopN (r02_sum_L1 p0 p1) m (v_t_s5_l1, i_s6_l1) = some d1 ∧ Ev [] w w' ∧ MS w' [[]] ∧ FR w.heap.size []) (fun s => s.1) (m1, 0, 0) ⟨rfl, rfl, rfl, rfl, trivial⟩ ⟨hd1, hev, hms, hfr⟩ ?_)
 rintro ⟨m1, v_t_s5_l1, i_s6_l1⟩ J wl1 ⟨hn1, hev, hms, hfr⟩
 rcases m1 with _ | m1
 · exact (loopN_zero hn1).elim
 obtain ⟨t1, h, hn1⟩ := bind_some hn1
 refine c_seq ?_
 refine c_sp ?_
 refine x_pure 3 [(8, Vi i_s6_l1), (9, Vi p1), (10, .bool (decide (i_s6_l1 < p1)))] _ _ _ (by kernel_rfl) ?_
 refine x_ek ?_
 refine c_norm [(0, Vs p0), (1, Vi p1), (5, Vi v_t_s5_l1), (6, Vi i_s6_l1), (10, .bool (decide (i_s6_l1 < p1)))] ⟨rfl, rfl, rfl, rfl, rfl, trivial⟩ (fun J => ?_)
 refine c_cond (decide (i_s6_l1 < p1)) rfl (fun hb => ?_) (fun hb => ?_)
 · replace h := ite_t hb h
   refine c_skip ?_
   refine k_then ?_
   refine c_seq ?_
   refine c_block ?_
   refine c_sp ?_
   refine x_pure 2 [(13, Vs p0), (14, Vi i_s6_l1)] _ _ _ (by kernel_rfl) ?_
   obtain ⟨x3, hx3, h⟩ := bind_some h
   refine x_index (xv := Vs p0) (yv := Vi i_s6_l1) (.int .u8 x3) rfl rfl rfl rfl (reads_sindex tstr9 hx3) ?_
   refine x_pure 1 [(16, .int .u8 (IntKind.u8.wrap (x3 - 48)))] _ _ _ (by kernel_rfl) ?_
   refine x_convert (Vi (IntKind.i64.wrap (IntKind.u8.wrap (x3 - 48)))) _ rfl rfl rfl (tcv5_3 (IntKind.u8.wrap (x3 - 48)) _) ?_
   refine inl1 ?_
   refine x_pure 1 [(7, Vi (IntKind.i64.wrap (IntKind.u8.wrap (x3 - 48))))] _ _ _ (by kernel_rfl) ?_
   refine x_ek ?_
   refine c_seq ?_
   refine c_sp ?_
   refine x_pure 3 [(18, Vi i_s6_l1), (19, Vi (Int.tmod i_s6_l1 2)), (20, .bool ((Int.tmod i_s6_l1 2) == 0))] _ _ _ (by kernel_rfl) ?_
   refine x_ek ?_
   refine c_cond ((Int.tmod i_s6_l1 2) == 0) rfl (fun hb => ?_) (fun hb => ?_)
   · replace h := ite_t hb h
     refine c_sp ?_
     refine x_pure 3 [(21, Vi (IntKind.i64.wrap (IntKind.u8.wrap (x3 - 48)))), (22, Vi (IntKind.i64.wrap ((IntKind.i64.wrap (IntKind.u8.wrap (x3 - 48))) * 2))), (7, Vi (IntKind.i64.wrap ((IntKind.i64.wrap (IntKind.u8.wrap (x3 - 48))) * 2)))] _ _ _ (by kernel_rfl) ?_
     refine x_ek ?_
     refine c_norm [(0, Vs p0), (1, Vi p1), (5, Vi v_t_s5_l1), (6, Vi i_s6_l1), (7, Vi (IntKind.i64.wrap ((IntKind.i64.wrap (IntKind.u8.wrap (x3 - 48))) * 2)))] ⟨rfl, rfl, rfl, rfl, rfl, trivial⟩ (fun J => ?_)
     refine c_sp ?_
     refine x_pure 2 [(23, Vi (IntKind.i64.wrap ((IntKind.i64.wrap (IntKind.u8.wrap (x3 - 48))) * 2))), (24, .bool (decide ((IntKind.i64.wrap ((IntKind.i64.wrap (IntKind.u8.wrap (x3 - 48))) * 2)) > 9)))] _ _ _ (by kernel_rfl) ?_
     refine x_ek ?_
     refine c_cond (decide ((IntKind.i64.wrap ((IntKind.i64.wrap (IntKind.u8.wrap (x3 - 48))) * 2)) > 9)) rfl (fun hb => ?_) (fun hb => ?_)
     · replace h := ite_t hb h
       refine c_plain ?_
       refine x_pure 3 [(25, Vi (IntKind.i64.wrap ((IntKind.i64.wrap (IntKind.u8.wrap (x3 - 48))) * 2))), (26, Vi (IntKind.i64.wrap ((IntKind.i64.wrap ((IntKind.i64.wrap (IntKind.u8.wrap (x3 - 48))) * 2)) - 9))), (7, Vi (IntKind.i64.wrap ((IntKind.i64.wrap ((IntKind.i64.wrap (IntKind.u8.wrap (x3 - 48))) * 2)) - 9)))] _ _ _ (by kernel_rfl) ?_
       refine x_ek ?_
       refine c_plain ?_
       refine x_pure 4 [(27, Vi v_t_s5_l1), (28, Vi (IntKind.i64.wrap ((IntKind.i64.wrap ((IntKind.i64.wrap (IntKind.u8.wrap (x3 - 48))) * 2)) - 9))), (29, Vi (IntKind.i64.wrap (v_t_s5_l1 + (IntKind.i64.wrap ((IntKind.i64.wrap ((IntKind.i64.wrap (IntKind.u8.wrap (x3 - 48))) * 2)) - 9))))), (5, Vi (IntKind.i64.wrap (v_t_s5_l1 + (IntKind.i64.wrap ((IntKind.i64.wrap ((IntKind.i64.wrap (IntKind.u8.wrap (x3 - 48))) * 2)) - 9)))))] _ _ _ (by kernel_rfl) ?_
       refine x_end rfl ?_
       refine k_block ?_
       refine k_then ?_
       refine c_plain ?_
       refine x_pure 3 [(11, Vi i_s6_l1), (12, Vi (IntKind.i64.wrap (i_s6_l1 + 1))), (6, Vi (IntKind.i64.wrap (i_s6_l1 + 1)))] _ _ _ (by kernel_rfl) ?_
       refine x_end rfl ?_
       have hx := some_inj h
       subst hx
       exact k_then ⟨(m1, IntKind.i64.wrap (v_t_s5_l1 + (IntKind.i64.wrap ((IntKind.i64.wrap ((IntKind.i64.wrap (IntKind.u8.wrap (x3 - 48))) * 2)) - 9))), IntKind.i64.wrap (i_s6_l1 + 1)), ⟨rfl, rfl, rfl, rfl, trivial⟩, ⟨hn1, hev, hms, hfr⟩, Nat.lt_succ_self _⟩
     replace h := ite_f hb h
     refine c_skip ?_
     refine k_then ?_
     refine c_plain ?_
     refine x_pure 4 [(27, Vi v_t_s5_l1), (28, Vi (IntKind.i64.wrap ((IntKind.i64.wrap (IntKind.u8.wrap (x3 - 48))) * 2))), (29, Vi (IntKind.i64.wrap (v_t_s5_l1 + (IntKind.i64.wrap ((IntKind.i64.wrap (IntKind.u8.wrap (x3 - 48))) * 2))))), (5, Vi (IntKind.i64.wrap (v_t_s5_l1 + (IntKind.i64.wrap ((IntKind.i64.wrap (IntKind.u8.wrap (x3 - 48))) * 2)))))] _ _ _ (by kernel_rfl) ?_
     refine x_end rfl ?_
     refine k_block ?_
     refine k_then ?_
     refine c_plain ?_
     refine x_pure 3 [(11, Vi i_s6_l1), (12, Vi (IntKind.i64.wrap (i_s6_l1 + 1))), (6, Vi (IntKind.i64.wrap (i_s6_l1 + 1)))] _ _ _ (by kernel_rfl) ?_
     refine x_end rfl ?_
     have hx := some_inj h
     subst hx
     exact k_then ⟨(m1, IntKind.i64.wrap (v_t_s5_l1 + (IntKind.i64.wrap ((IntKind.i64.wrap (IntKind.u8.wrap (x3 - 48))) * 2))), IntKind.i64.wrap (i_s6_l1 + 1)), ⟨rfl, rfl, rfl, rfl, trivial⟩, ⟨hn1, hev, hms, hfr⟩, Nat.lt_succ_self _⟩
   replace h := ite_f hb h
   refine c_skip ?_
   refine k_then ?_
   refine c_plain ?_
   refine x_pure 4 [(27, Vi v_t_s5_l1), (28, Vi (IntKind.i64.wrap (IntKind.u8.wrap (x3 - 48)))), (29, Vi (IntKind.i64.wrap (v_t_s5_l1 + (IntKind.i64.wrap (IntKind.u8.wrap (x3 - 48)))))), (5, Vi (IntKind.i64.wrap (v_t_s5_l1 + (IntKind.i64.wrap (IntKind.u8.wrap (x3 - 48))))))] _ _ _ (by kernel_rfl) ?_
   refine x_end rfl ?_
   refine k_block ?_
   refine k_then ?_
   refine c_norm [(0, Vs p0), (1, Vi p1), (5, Vi (IntKind.i64.wrap (v_t_s5_l1 + (IntKind.i64.wrap (IntKind.u8.wrap (x3 - 48)))))), (6, Vi i_s6_l1)] ⟨rfl, rfl, rfl, rfl, trivial⟩ (fun J => ?_)
   refine c_plain ?_
   refine x_pure 3 [(11, Vi i_s6_l1), (12, Vi (IntKind.i64.wrap (i_s6_l1 + 1))), (6, Vi (IntKind.i64.wrap (i_s6_l1 + 1)))] _ _ _ (by kernel_rfl) ?_
   refine x_end rfl ?_
   have hx := some_inj h
   subst hx
   exact k_then ⟨(m1, IntKind.i64.wrap (v_t_s5_l1 + (IntKind.i64.wrap (IntKind.u8.wrap (x3 - 48)))), IntKind.i64.wrap (i_s6_l1 + 1)), ⟨rfl, rfl, rfl, rfl, trivial⟩, ⟨hn1, hev, hms, hfr⟩, Nat.lt_succ_self _⟩
 replace h := ite_f hb h
 refine c_exit ?_
 refine k_then_exit ?_
 have hx := some_inj h
 subst hx
 have hy := some_inj hn1
 subst hy
 replace h := h1
 refine k_then_exit ?_
 refine k_block_in ?_
 refine k_then ?_
 refine c_norm [(5, Vi v_t_s5_l1)] ⟨rfl, trivial⟩ (fun J => ?_)
 refine c_sp ?_
 refine x_pure 2 [(30, Vi v_t_s5_l1), (4, Vi v_t_s5_l1)] _ _ _ (by kernel_rfl) ?_
 refine x_ek ?_
 refine c_ret ?_
 refine r_ret (r_vals [Vi v_t_s5_l1] ⟨rfl, trivial⟩ ?_)
 have hx := some_inj h
 subst hx
 exact ⟨rfl, hev⟩
def r02_Digit (p0 : List UInt8) : Option (Int × Int) :=
((r02_digits p0 11).bind fun x2 =>
(if (!x2) = true then
some (0, 11)
else
((r02_sum p0 11).bind fun x4 =>
some (Int.tmod (IntKind.i64.wrap (10 - (Int.tmod x4 10))) 10, 0))))

theorem r02_Digit_w (p0 : List UInt8) (r : Int × Int) (w : World) (h : r02_Digit p0 = some r) : CallVC Try.prog 21 [Vs p0] w fun v w' => v = .tuple #[Vi r.1, Vi r.2] ∧ Ev [] w w' := by
 refine calls_vc hmx Try.func21 (by kernel_rfl) rfl (rs := [.tmp 2, .tmp 3]) rfl (by kernel_rfl) (args := [Vs p0]) rfl ?_
 have hev : Ev [] w w := Ev.refl _ _
 have hms : MS w [[]] := ⟨List.pairwise_singleton _ _, fun l hl b hb => by simp only [List.mem_singleton] at hl; subst hl; cases hb⟩
 have hfr : FR w.heap.size [] := FR.nil _
 refine c_sp ?_
 refine x_pure 2 [(2, Vi 0), (3, Vi 0)] _ _ _ (by kernel_rfl) ?_
 refine x_ek ?_
 refine c_seq ?_
 refine c_sp ?_
 refine x_pure 1 [(4, Vs p0)] _ _ _ (by kernel_rfl) ?_
 obtain ⟨x2, hx, h⟩ := bind_some h
 have hcall := r02_digits_w p0 11 _ w hx
 refine x_call 34 #[] #[] [Vs p0, Vi 11] _ rfl rfl rfl rfl hcall ?_
 rintro v w3 ⟨rfl, he3⟩
 clear hcall hx
 refine inl1 ?_
 replace hms := hms.ev he3
 replace hev := hev.ext he3
 refine x_pure 1 [(6, .bool (!x2))] _ _ _ (by kernel_rfl) ?_
 refine x_ek ?_
 refine c_cond (!x2) rfl (fun hb => ?_) (fun hb => ?_)
 · replace h := ite_t hb h
   refine c_sp ?_
   refine x_pure 2 [(2, Vi 0), (3, Vi 11)] _ _ _ (by kernel_rfl) ?_
   refine x_ek ?_
   refine c_ret ?_
   refine k_then_ret ?_
   refine r_ret (r_vals [Vi 0, Vi 11] ⟨rfl, rfl, trivial⟩ ?_)
   have hx := some_inj h
   subst hx
   exact ⟨rfl, hev⟩
 replace h := ite_f hb h
 refine c_skip ?_
 refine k_then ?_
 refine c_sp ?_
 refine x_pure 1 [(7, Vs p0)] _ _ _ (by kernel_rfl) ?_
 obtain ⟨x4, hx, h⟩ := bind_some h
 have hcall := r02_sum_w p0 11 _ w3 hx
 refine x_call 35 #[] #[] [Vs p0, Vi 11] _ rfl rfl rfl rfl hcall ?_
 rintro v w5 ⟨rfl, he5⟩
 clear hcall hx
 refine inl1 ?_
 replace hms := hms.ev he5
 replace hev := hev.ext he5
 refine x_pure 5 [(9, Vi (Int.tmod x4 10)), (10, Vi (IntKind.i64.wrap (10 - (Int.tmod x4 10)))), (11, Vi (Int.tmod (IntKind.i64.wrap (10 - (Int.tmod x4 10))) 10)), (2, Vi (Int.tmod (IntKind.i64.wrap (10 - (Int.tmod x4 10))) 10)), (3, Vi 0)] _ _ _ (by kernel_rfl) ?_
 refine x_ek ?_
 refine c_ret ?_
 refine r_ret (r_vals [Vi (Int.tmod (IntKind.i64.wrap (10 - (Int.tmod x4 10))) 10), Vi 0] ⟨rfl, rfl, trivial⟩ ?_)
 have hx := some_inj h
 subst hx
 exact ⟨rfl, hev⟩
def r02_Valid (p0 : List UInt8) : Option Int :=
((r02_digits p0 12).bind fun x2 =>
(if (!x2) = true then
some 11
else
((sAt p0 11).bind fun x4 =>
((r02_sum p0 11).bind fun x5 =>
(if ((Int.tmod (IntKind.i64.wrap (x5 + (IntKind.i64.wrap (IntKind.u8.wrap (x4 - 48))))) 10) != 0) = true then
some 9
else
some 0)))))

theorem r02_Valid_w (p0 : List UInt8) (r : Int) (w : World) (h : r02_Valid p0 = some r) : CallVC Try.prog 29 [Vs p0] w fun v w' => v = Vi r ∧ Ev [] w w' := by
 refine calls_vc hmx Try.func29 (by kernel_rfl) rfl (rs := [.tmp 2]) rfl (by kernel_rfl) (args := [Vs p0]) rfl ?_
 have hev : Ev [] w w := Ev.refl _ _
 have hms : MS w [[]] := ⟨List.pairwise_singleton _ _, fun l hl b hb => by simp only [List.mem_singleton] at hl; subst hl; cases hb⟩
 have hfr : FR w.heap.size [] := FR.nil _
 refine c_sp ?_
 refine x_pure 1 [(2, Vi 0)] _ _ _ (by kernel_rfl) ?_
 refine x_ek ?_
 refine c_seq ?_
 refine c_sp ?_
 refine x_pure 1 [(3, Vs p0)] _ _ _ (by kernel_rfl) ?_
 obtain ⟨x2, hx, h⟩ := bind_some h
 have hcall := r02_digits_w p0 12 _ w hx
 refine x_call 34 #[] #[] [Vs p0, Vi 12] _ rfl rfl rfl rfl hcall ?_
 rintro v w3 ⟨rfl, he3⟩
 clear hcall hx
 refine inl1 ?_
 replace hms := hms.ev he3
 replace hev := hev.ext he3
 refine x_pure 1 [(5, .bool (!x2))] _ _ _ (by kernel_rfl) ?_
 refine x_ek ?_
 refine c_cond (!x2) rfl (fun hb => ?_) (fun hb => ?_)
 · replace h := ite_t hb h
   refine c_sp ?_
   refine x_pure 1 [(2, Vi 11)] _ _ _ (by kernel_rfl) ?_
   refine x_ek ?_
   refine c_ret ?_
   refine k_then_ret ?_
   refine r_ret (r_vals [Vi 11] ⟨rfl, trivial⟩ ?_)
   have hx := some_inj h
   subst hx
   exact ⟨rfl, hev⟩
 replace h := ite_f hb h
 refine c_skip ?_
 refine k_then ?_
 refine c_seq ?_
 refine c_seq ?_
 refine c_drawnp [] [(0, false), (2, false), (3, false), (4, false)] (.alt 1 false (opsThen [(5, false), (6, false), (7, false), (8, false)] .stop) (.alt 5 false (opsThen [(1, false), (6, false), (7, false), (8, false)] .stop) .none_)) _ (by kernel_rfl) rfl ?_
 replace hms := hms.ev (Ev.drew w3)
 replace hev := hev.ext (Ev.drew w3)
 refine x_pure 2 [(6, Vs p0), (8, Vs p0)] _ _ _ (by kernel_rfl) ?_
 obtain ⟨x4, hx4, h⟩ := bind_some h
 refine x_index (xv := Vs p0) (yv := Vi 11) (.int .u8 x4) rfl rfl rfl rfl (reads_sindex tstr9 hx4) ?_
 refine x_pure 1 [(10, .int .u8 (IntKind.u8.wrap (x4 - 48)))] _ _ _ (by kernel_rfl) ?_
 refine x_end rfl ?_
 refine t_alt _ rfl ?_ ?_
 · obtain ⟨x5, hx, h⟩ := bind_some h
   have hcall := r02_sum_w p0 11 _ (w3).drew hx
   refine x_call 35 #[] #[] [Vs p0, Vi 11] _ rfl rfl rfl rfl hcall ?_
   rintro v w6 ⟨rfl, he6⟩
   clear hcall hx
   refine ⟨.inr he6, ?_⟩
   replace hms := hms.ev he6
   replace hev := hev.ext he6
   refine x_convert (Vi (IntKind.i64.wrap (IntKind.u8.wrap (x4 - 48)))) _ rfl rfl rfl (tcv5_3 (IntKind.u8.wrap (x4 - 48)) _) ?_
   refine ⟨.inr (Ev.refl _ _), ?_⟩
   refine x_pure 3 [(12, Vi (IntKind.i64.wrap (x5 + (IntKind.i64.wrap (IntKind.u8.wrap (x4 - 48)))))), (13, Vi (Int.tmod (IntKind.i64.wrap (x5 + (IntKind.i64.wrap (IntKind.u8.wrap (x4 - 48))))) 10)), (14, .bool ((Int.tmod (IntKind.i64.wrap (x5 + (IntKind.i64.wrap (IntKind.u8.wrap (x4 - 48))))) 10) != 0))] _ _ _ (by kernel_rfl) ?_
   refine x_end rfl ?_
   refine t_stop ?_
   refine k_then ?_
   refine c_norm [(14, .bool ((Int.tmod (IntKind.i64.wrap (x5 + (IntKind.i64.wrap (IntKind.u8.wrap (x4 - 48))))) 10) != 0))] ⟨rfl, trivial⟩ (fun J => ?_)
   refine c_cond ((Int.tmod (IntKind.i64.wrap (x5 + (IntKind.i64.wrap (IntKind.u8.wrap (x4 - 48))))) 10) != 0) rfl (fun hb => ?_) (fun hb => ?_)
   · replace h := ite_t hb h
     refine c_sp ?_
     refine x_pure 1 [(2, Vi 9)] _ _ _ (by kernel_rfl) ?_
     refine x_ek ?_
     refine c_ret ?_
     refine k_then_ret ?_
     refine r_ret (r_vals [Vi 9] ⟨rfl, trivial⟩ ?_)
     have hx := some_inj h
     subst hx
     exact ⟨rfl, hev⟩
   replace h := ite_f hb h
   refine c_skip ?_
   refine k_then ?_
   refine c_sp ?_
   refine x_pure 1 [(2, Vi 0)] _ _ _ (by kernel_rfl) ?_
   refine x_ek ?_
   refine c_ret ?_
   refine r_ret (r_vals [Vi 0] ⟨rfl, trivial⟩ ?_)
   have hx := some_inj h
   subst hx
   exact ⟨rfl, hev⟩
 refine t_alt _ rfl ?_ ?_
 · refine x_convert (Vi (IntKind.i64.wrap (IntKind.u8.wrap (x4 - 48)))) _ rfl rfl rfl (tcv5_3 (IntKind.u8.wrap (x4 - 48)) _) ?_
   refine ⟨.inr (Ev.refl _ _), ?_⟩
   obtain ⟨x5, hx, h⟩ := bind_some h
   have hcall := r02_sum_w p0 11 _ (w3).drew hx
   refine x_call 35 #[] #[] [Vs p0, Vi 11] _ rfl rfl rfl rfl hcall ?_
   rintro v w6 ⟨rfl, he6⟩
   clear hcall hx
   refine ⟨.inr he6, ?_⟩
   replace hms := hms.ev he6
   replace hev := hev.ext he6
   refine x_pure 3 [(12, Vi (IntKind.i64.wrap (x5 + (IntKind.i64.wrap (IntKind.u8.wrap (x4 - 48)))))), (13, Vi (Int.tmod (IntKind.i64.wrap (x5 + (IntKind.i64.wrap (IntKind.u8.wrap (x4 - 48))))) 10)), (14, .bool ((Int.tmod (IntKind.i64.wrap (x5 + (IntKind.i64.wrap (IntKind.u8.wrap (x4 - 48))))) 10) != 0))] _ _ _ (by kernel_rfl) ?_
   refine x_end rfl ?_
   refine t_stop ?_
   refine k_then ?_
   refine c_norm [(14, .bool ((Int.tmod (IntKind.i64.wrap (x5 + (IntKind.i64.wrap (IntKind.u8.wrap (x4 - 48))))) 10) != 0))] ⟨rfl, trivial⟩ (fun J => ?_)
   refine c_cond ((Int.tmod (IntKind.i64.wrap (x5 + (IntKind.i64.wrap (IntKind.u8.wrap (x4 - 48))))) 10) != 0) rfl (fun hb => ?_) (fun hb => ?_)
   · replace h := ite_t hb h
     refine c_sp ?_
     refine x_pure 1 [(2, Vi 9)] _ _ _ (by kernel_rfl) ?_
     refine x_ek ?_
     refine c_ret ?_
     refine k_then_ret ?_
     refine r_ret (r_vals [Vi 9] ⟨rfl, trivial⟩ ?_)
     have hx := some_inj h
     subst hx
     exact ⟨rfl, hev⟩
   replace h := ite_f hb h
   refine c_skip ?_
   refine k_then ?_
   refine c_sp ?_
   refine x_pure 1 [(2, Vi 0)] _ _ _ (by kernel_rfl) ?_
   refine x_ek ?_
   refine c_ret ?_
   refine r_ret (r_vals [Vi 0] ⟨rfl, trivial⟩ ?_)
   have hx := some_inj h
   subst hx
   exact ⟨rfl, hev⟩
 exact t_none
def r02_Format (p0 : List UInt8) : Option ((List UInt8) × Int) :=
((r02_Valid p0).bind fun x2 =>
(if (x2 != 0) = true then
some (([] : List UInt8), x2)
else
(if 0 ≤ (0 : Int) ∧ (0 : Int) ≤ (2 : Int) ∧ (2 : Int) ≤ (p0.length : Int) then
(if ((p0.drop (Int.toNat 0)).take (Int.toNat 2 - Int.toNat 0)).length + ([32] : List UInt8).length ≤ 4294967296 then
(if 0 ≤ (2 : Int) ∧ (2 : Int) ≤ (4 : Int) ∧ (4 : Int) ≤ (p0.length : Int) then
(if (((p0.drop (Int.toNat 0)).take (Int.toNat 2 - Int.toNat 0)) ++ ([32] : List UInt8)).length + ((p0.drop (Int.toNat 2)).take (Int.toNat 4 - Int.toNat 2)).length ≤ 4294967296 then
(if ((((p0.drop (Int.toNat 0)).take (Int.toNat 2 - Int.toNat 0)) ++ ([32] : List UInt8)) ++ ((p0.drop (Int.toNat 2)).take (Int.toNat 4 - Int.toNat 2))).length + ([32] : List UInt8).length ≤ 4294967296 then
(if 0 ≤ (4 : Int) ∧ (4 : Int) ≤ (8 : Int) ∧ (8 : Int) ≤ (p0.length : Int) then
(if (((((p0.drop (Int.toNat 0)).take (Int.toNat 2 - Int.toNat 0)) ++ ([32] : List UInt8)) ++ ((p0.drop (Int.toNat 2)).take (Int.toNat 4 - Int.toNat 2))) ++ ([32] : List UInt8)).length + ((p0.drop (Int.toNat 4)).take (Int.toNat 8 - Int.toNat 4)).length ≤ 4294967296 then
(if ((((((p0.drop (Int.toNat 0)).take (Int.toNat 2 - Int.toNat 0)) ++ ([32] : List UInt8)) ++ ((p0.drop (Int.toNat 2)).take (Int.toNat 4 - Int.toNat 2))) ++ ([32] : List UInt8)) ++ ((p0.drop (Int.toNat 4)).take (Int.toNat 8 - Int.toNat 4))).length + ([32] : List UInt8).length ≤ 4294967296 then
(if 0 ≤ (8 : Int) ∧ (8 : Int) ≤ (11 : Int) ∧ (11 : Int) ≤ (p0.length : Int) then
(if (((((((p0.drop (Int.toNat 0)).take (Int.toNat 2 - Int.toNat 0)) ++ ([32] : List UInt8)) ++ ((p0.drop (Int.toNat 2)).take (Int.toNat 4 - Int.toNat 2))) ++ ([32] : List UInt8)) ++ ((p0.drop (Int.toNat 4)).take (Int.toNat 8 - Int.toNat 4))) ++ ([32] : List UInt8)).length + ((p0.drop (Int.toNat 8)).take (Int.toNat 11 - Int.toNat 8)).length ≤ 4294967296 then
(if ((((((((p0.drop (Int.toNat 0)).take (Int.toNat 2 - Int.toNat 0)) ++ ([32] : List UInt8)) ++ ((p0.drop (Int.toNat 2)).take (Int.toNat 4 - Int.toNat 2))) ++ ([32] : List UInt8)) ++ ((p0.drop (Int.toNat 4)).take (Int.toNat 8 - Int.toNat 4))) ++ ([32] : List UInt8)) ++ ((p0.drop (Int.toNat 8)).take (Int.toNat 11 - Int.toNat 8))).length + ([45] : List UInt8).length ≤ 4294967296 then
(if 0 ≤ (11 : Int) ∧ (11 : Int) ≤ ((p0.length : Int) : Int) ∧ ((p0.length : Int) : Int) ≤ (p0.length : Int) then
(if (((((((((p0.drop (Int.toNat 0)).take (Int.toNat 2 - Int.toNat 0)) ++ ([32] : List UInt8)) ++ ((p0.drop (Int.toNat 2)).take (Int.toNat 4 - Int.toNat 2))) ++ ([32] : List UInt8)) ++ ((p0.drop (Int.toNat 4)).take (Int.toNat 8 - Int.toNat 4))) ++ ([32] : List UInt8)) ++ ((p0.drop (Int.toNat 8)).take (Int.toNat 11 - Int.toNat 8))) ++ ([45] : List UInt8)).length + ((p0.drop (Int.toNat 11)).take (Int.toNat (p0.length : Int) - Int.toNat 11)).length ≤ 4294967296 then
some (((((((((((p0.drop (Int.toNat 0)).take (Int.toNat 2 - Int.toNat 0)) ++ ([32] : List UInt8)) ++ ((p0.drop (Int.toNat 2)).take (Int.toNat 4 - Int.toNat 2))) ++ ([32] : List UInt8)) ++ ((p0.drop (Int.toNat 4)).take (Int.toNat 8 - Int.toNat 4))) ++ ([32] : List UInt8)) ++ ((p0.drop (Int.toNat 8)).take (Int.toNat 11 - Int.toNat 8))) ++ ([45] : List UInt8)) ++ ((p0.drop (Int.toNat 11)).take (Int.toNat (p0.length : Int) - Int.toNat 11))), 0)
else none)
else none)
else none)
else none)
else none)
else none)
else none)
else none)
else none)
else none)
else none)
else none)
else none)))

theorem r02_Format_w (p0 : List UInt8) (r : (List UInt8) × Int) (w : World) (h : r02_Format p0 = some r) : CallVC Try.prog 16 [Vs p0] w fun v w' => v = .tuple #[Vs r.1, Vi r.2] ∧ Ev [] w w' := by
 refine calls_vc hmx Try.func16 (by kernel_rfl) rfl (rs := [.tmp 2, .tmp 3]) rfl (by kernel_rfl) (args := [Vs p0]) rfl ?_
 have hev : Ev [] w w := Ev.refl _ _
 have hms : MS w [[]] := ⟨List.pairwise_singleton _ _, fun l hl b hb => by simp only [List.mem_singleton] at hl; subst hl; cases hb⟩
 have hfr : FR w.heap.size [] := FR.nil _
 refine c_sp ?_
 refine x_pure 2 [(2, Vs ([] : List UInt8)), (3, Vi 0)] _ _ _ (by kernel_rfl) ?_
 refine x_ek ?_
 refine c_seq ?_
 refine c_sp ?_
 refine x_pure 1 [(5, Vs p0)] _ _ _ (by kernel_rfl) ?_
 obtain ⟨x2, hx, h⟩ := bind_some h
 have hcall := r02_Valid_w p0 _ w hx
 refine x_call 29 #[] #[] [Vs p0] _ rfl rfl rfl rfl hcall ?_
 rintro v w3 ⟨rfl, he3⟩
 clear hcall hx
 refine inl1 ?_
 replace hms := hms.ev he3
 replace hev := hev.ext he3
 refine x_pure 1 [(4, Vi x2)] _ _ _ (by kernel_rfl) ?_
 refine x_ek ?_
 refine c_sp ?_
 refine x_pure 2 [(7, Vi x2), (8, .bool (x2 != 0))] _ _ _ (by kernel_rfl) ?_
 refine x_ek ?_
 refine c_cond (x2 != 0) rfl (fun hb => ?_) (fun hb => ?_)
 · replace h := ite_t hb h
   refine c_sp ?_
   refine x_pure 3 [(9, Vi x2), (2, Vs ([] : List UInt8)), (3, Vi x2)] _ _ _ (by kernel_rfl) ?_
   refine x_ek ?_
   refine c_ret ?_
   refine k_then_ret ?_
   refine r_ret (r_vals [Vs ([] : List UInt8), Vi x2] ⟨rfl, rfl, trivial⟩ ?_)
   have hx := some_inj h
   subst hx
   exact ⟨rfl, hev⟩
 replace h := ite_f hb h
 refine c_skip ?_
 refine k_then ?_
 refine c_seq ?_
 refine c_drawn [] [(0, false), (1, false), (2, false), (3, false), (4, false), (5, false), (6, false), (7, false), (8, false), (9, false), (10, false), (11, false), (12, false), (13, false), (14, false), (15, false), (16, false), (17, false), (18, false), (19, false)] _ (by kernel_rfl) rfl ?_
 replace hms := hms.ev (Ev.drew w3)
 replace hev := hev.ext (Ev.drew w3)
 refine x_pure 1 [(10, Vs p0)] _ _ _ (by kernel_rfl) ?_
 have hg := guard_l h
 replace h := guard_r h
 refine x_slice (xv := Vs p0) (lv := (some (Vi 0))) (hv := (some (Vi 2))) (mv := none) (Vs ((p0.drop (Int.toNat 0)).take (Int.toNat 2 - Int.toNat 0))) rfl rfl rfl rfl rfl rfl (reads_scut tstr9 _ (some 0) (some 2) hg) ?_
 refine x_binop (Vs (((p0.drop (Int.toNat 0)).take (Int.toNat 2 - Int.toNat 0)) ++ ([32] : List UInt8))) (Vs ((p0.drop (Int.toNat 0)).take (Int.toNat 2 - Int.toNat 0))) (Vs ([32] : List UInt8)) rfl rfl rfl rfl (bin_sadd (guard_l h)) ?_
 replace h := guard_r h
 refine x_pure 1 [(13, Vs p0)] _ _ _ (by kernel_rfl) ?_
 have hg := guard_l h
 replace h := guard_r h
 refine x_slice (xv := Vs p0) (lv := (some (Vi 2))) (hv := (some (Vi 4))) (mv := none) (Vs ((p0.drop (Int.toNat 2)).take (Int.toNat 4 - Int.toNat 2))) rfl rfl rfl rfl rfl rfl (reads_scut tstr9 _ (some 2) (some 4) hg) ?_
 refine x_binop (Vs ((((p0.drop (Int.toNat 0)).take (Int.toNat 2 - Int.toNat 0)) ++ ([32] : List UInt8)) ++ ((p0.drop (Int.toNat 2)).take (Int.toNat 4 - Int.toNat 2)))) (Vs (((p0.drop (Int.toNat 0)).take (Int.toNat 2 - Int.toNat 0)) ++ ([32] : List UInt8))) (Vs ((p0.drop (Int.toNat 2)).take (Int.toNat 4 - Int.toNat 2))) rfl rfl rfl rfl (bin_sadd (guard_l h)) ?_
 replace h := guard_r h
 refine x_binop (Vs (((((p0.drop (Int.toNat 0)).take (Int.toNat 2 - Int.toNat 0)) ++ ([32] : List UInt8)) ++ ((p0.drop (Int.toNat 2)).take (Int.toNat 4 - Int.toNat 2))) ++ ([32] : List UInt8))) (Vs ((((p0.drop (Int.toNat 0)).take (Int.toNat 2 - Int.toNat 0)) ++ ([32] : List UInt8)) ++ ((p0.drop (Int.toNat 2)).take (Int.toNat 4 - Int.toNat 2)))) (Vs ([32] : List UInt8)) rfl rfl rfl rfl (bin_sadd (guard_l h)) ?_
 replace h := guard_r h
 refine x_pure 1 [(17, Vs p0)] _ _ _ (by kernel_rfl) ?_
 have hg := guard_l h
 replace h := guard_r h
 refine x_slice (xv := Vs p0) (lv := (some (Vi 4))) (hv := (some (Vi 8))) (mv := none) (Vs ((p0.drop (Int.toNat 4)).take (Int.toNat 8 - Int.toNat 4))) rfl rfl rfl rfl rfl rfl (reads_scut tstr9 _ (some 4) (some 8) hg) ?_
 refine x_binop (Vs ((((((p0.drop (Int.toNat 0)).take (Int.toNat 2 - Int.toNat 0)) ++ ([32] : List UInt8)) ++ ((p0.drop (Int.toNat 2)).take (Int.toNat 4 - Int.toNat 2))) ++ ([32] : List UInt8)) ++ ((p0.drop (Int.toNat 4)).take (Int.toNat 8 - Int.toNat 4)))) (Vs (((((p0.drop (Int.toNat 0)).take (Int.toNat 2 - Int.toNat 0)) ++ ([32] : List UInt8)) ++ ((p0.drop (Int.toNat 2)).take (Int.toNat 4 - Int.toNat 2))) ++ ([32] : List UInt8))) (Vs ((p0.drop (Int.toNat 4)).take (Int.toNat 8 - Int.toNat 4))) rfl rfl rfl rfl (bin_sadd (guard_l h)) ?_
 replace h := guard_r h
 refine x_binop (Vs (((((((p0.drop (Int.toNat 0)).take (Int.toNat 2 - Int.toNat 0)) ++ ([32] : List UInt8)) ++ ((p0.drop (Int.toNat 2)).take (Int.toNat 4 - Int.toNat 2))) ++ ([32] : List UInt8)) ++ ((p0.drop (Int.toNat 4)).take (Int.toNat 8 - Int.toNat 4))) ++ ([32] : List UInt8))) (Vs ((((((p0.drop (Int.toNat 0)).take (Int.toNat 2 - Int.toNat 0)) ++ ([32] : List UInt8)) ++ ((p0.drop (Int.toNat 2)).take (Int.toNat 4 - Int.toNat 2))) ++ ([32] : List UInt8)) ++ ((p0.drop (Int.toNat 4)).take (Int.toNat 8 - Int.toNat 4)))) (Vs ([32] : List UInt8)) rfl rfl rfl rfl (bin_sadd (guard_l h)) ?_
 replace h := guard_r h
 refine x_pure 1 [(21, Vs p0)] _ _ _ (by kernel_rfl) ?_
 have hg := guard_l h
 replace h := guard_r h
 refine x_slice (xv := Vs p0) (lv := (some (Vi 8))) (hv := (some (Vi 11))) (mv := none) (Vs ((p0.drop (Int.toNat 8)).take (Int.toNat 11 - Int.toNat 8))) rfl rfl rfl rfl rfl rfl (reads_scut tstr9 _ (some 8) (some 11) hg) ?_
 refine x_binop (Vs ((((((((p0.drop (Int.toNat 0)).take (Int.toNat 2 - Int.toNat 0)) ++ ([32] : List UInt8)) ++ ((p0.drop (Int.toNat 2)).take (Int.toNat 4 - Int.toNat 2))) ++ ([32] : List UInt8)) ++ ((p0.drop (Int.toNat 4)).take (Int.toNat 8 - Int.toNat 4))) ++ ([32] : List UInt8)) ++ ((p0.drop (Int.toNat 8)).take (Int.toNat 11 - Int.toNat 8)))) (Vs (((((((p0.drop (Int.toNat 0)).take (Int.toNat 2 - Int.toNat 0)) ++ ([32] : List UInt8)) ++ ((p0.drop (Int.toNat 2)).take (Int.toNat 4 - Int.toNat 2))) ++ ([32] : List UInt8)) ++ ((p0.drop (Int.toNat 4)).take (Int.toNat 8 - Int.toNat 4))) ++ ([32] : List UInt8))) (Vs ((p0.drop (Int.toNat 8)).take (Int.toNat 11 - Int.toNat 8))) rfl rfl rfl rfl (bin_sadd (guard_l h)) ?_
 replace h := guard_r h
 refine x_binop (Vs (((((((((p0.drop (Int.toNat 0)).take (Int.toNat 2 - Int.toNat 0)) ++ ([32] : List UInt8)) ++ ((p0.drop (Int.toNat 2)).take (Int.toNat 4 - Int.toNat 2))) ++ ([32] : List UInt8)) ++ ((p0.drop (Int.toNat 4)).take (Int.toNat 8 - Int.toNat 4))) ++ ([32] : List UInt8)) ++ ((p0.drop (Int.toNat 8)).take (Int.toNat 11 - Int.toNat 8))) ++ ([45] : List UInt8))) (Vs ((((((((p0.drop (Int.toNat 0)).take (Int.toNat 2 - Int.toNat 0)) ++ ([32] : List UInt8)) ++ ((p0.drop (Int.toNat 2)).take (Int.toNat 4 - Int.toNat 2))) ++ ([32] : List UInt8)) ++ ((p0.drop (Int.toNat 4)).take (Int.toNat 8 - Int.toNat 4))) ++ ([32] : List UInt8)) ++ ((p0.drop (Int.toNat 8)).take (Int.toNat 11 - Int.toNat 8)))) (Vs ([45] : List UInt8)) rfl rfl rfl rfl (bin_sadd (guard_l h)) ?_
 replace h := guard_r h
 refine x_pure 1 [(25, Vs p0)] _ _ _ (by kernel_rfl) ?_
 have hg := guard_l h
 replace h := guard_r h
 refine x_slice (xv := Vs p0) (lv := (some (Vi 11))) (hv := none) (mv := none) (Vs ((p0.drop (Int.toNat 11)).take (Int.toNat (p0.length : Int) - Int.toNat 11))) rfl rfl rfl rfl rfl rfl (reads_scut tstr9 _ (some 11) none hg) ?_
 refine x_binop (Vs ((((((((((p0.drop (Int.toNat 0)).take (Int.toNat 2 - Int.toNat 0)) ++ ([32] : List UInt8)) ++ ((p0.drop (Int.toNat 2)).take (Int.toNat 4 - Int.toNat 2))) ++ ([32] : List UInt8)) ++ ((p0.drop (Int.toNat 4)).take (Int.toNat 8 - Int.toNat 4))) ++ ([32] : List UInt8)) ++ ((p0.drop (Int.toNat 8)).take (Int.toNat 11 - Int.toNat 8))) ++ ([45] : List UInt8)) ++ ((p0.drop (Int.toNat 11)).take (Int.toNat (p0.length : Int) - Int.toNat 11)))) (Vs (((((((((p0.drop (Int.toNat 0)).take (Int.toNat 2 - Int.toNat 0)) ++ ([32] : List UInt8)) ++ ((p0.drop (Int.toNat 2)).take (Int.toNat 4 - Int.toNat 2))) ++ ([32] : List UInt8)) ++ ((p0.drop (Int.toNat 4)).take (Int.toNat 8 - Int.toNat 4))) ++ ([32] : List UInt8)) ++ ((p0.drop (Int.toNat 8)).take (Int.toNat 11 - Int.toNat 8))) ++ ([45] : List UInt8))) (Vs ((p0.drop (Int.toNat 11)).take (Int.toNat (p0.length : Int) - Int.toNat 11))) rfl rfl rfl rfl (bin_sadd (guard_l h)) ?_
 replace h := guard_r h
 refine x_pure 2 [(2, Vs ((((((((((p0.drop (Int.toNat 0)).take (Int.toNat 2 - Int.toNat 0)) ++ ([32] : List UInt8)) ++ ((p0.drop (Int.toNat 2)).take (Int.toNat 4 - Int.toNat 2))) ++ ([32] : List UInt8)) ++ ((p0.drop (Int.toNat 4)).take (Int.toNat 8 - Int.toNat 4))) ++ ([32] : List UInt8)) ++ ((p0.drop (Int.toNat 8)).take (Int.toNat 11 - Int.toNat 8))) ++ ([45] : List UInt8)) ++ ((p0.drop (Int.toNat 11)).take (Int.toNat (p0.length : Int) - Int.toNat 11)))), (3, Vi 0)] _ _ _ (by kernel_rfl) ?_
 refine x_ek ?_
 refine c_norm [(2, Vs ((((((((((p0.drop (Int.toNat 0)).take (Int.toNat 2 - Int.toNat 0)) ++ ([32] : List UInt8)) ++ ((p0.drop (Int.toNat 2)).take (Int.toNat 4 - Int.toNat 2))) ++ ([32] : List UInt8)) ++ ((p0.drop (Int.toNat 4)).take (Int.toNat 8 - Int.toNat 4))) ++ ([32] : List UInt8)) ++ ((p0.drop (Int.toNat 8)).take (Int.toNat 11 - Int.toNat 8))) ++ ([45] : List UInt8)) ++ ((p0.drop (Int.toNat 11)).take (Int.toNat (p0.length : Int) - Int.toNat 11)))), (3, Vi 0)] ⟨rfl, rfl, trivial⟩ (fun J => ?_)
 refine c_ret ?_
 refine r_ret (r_vals [Vs ((((((((((p0.drop (Int.toNat 0)).take (Int.toNat 2 - Int.toNat 0)) ++ ([32] : List UInt8)) ++ ((p0.drop (Int.toNat 2)).take (Int.toNat 4 - Int.toNat 2))) ++ ([32] : List UInt8)) ++ ((p0.drop (Int.toNat 4)).take (Int.toNat 8 - Int.toNat 4))) ++ ([32] : List UInt8)) ++ ((p0.drop (Int.toNat 8)).take (Int.toNat 11 - Int.toNat 8))) ++ ([45] : List UInt8)) ++ ((p0.drop (Int.toNat 11)).take (Int.toNat (p0.length : Int) - Int.toNat 11))), Vi 0] ⟨rfl, rfl, trivial⟩ ?_)
 have hx := some_inj h
 subst hx
 exact ⟨rfl, hev⟩
def r02_Kind_J6 (x4 : Int) (t15__s15_j6 : Bool) : Option (Int × Int) :=
(if t15__s15_j6 = true then
some (2, 0)
else
(if (x4 == 57) = true then
some (3, 0)
else
some (0, 0)))

def r02_Kind_J5 (x4 : Int) (t12__s12_j5 : Bool) : Option (Int × Int) :=
(if t12__s12_j5 = true then
some (1, 0)
else
(if (x4 == 50) = true then
r02_Kind_J6 x4 true
else
r02_Kind_J6 x4 (x4 == 52)))

def r02_Kind (p0 : List UInt8) : Option (Int × Int) :=
((r02_Valid p0).bind fun x2 =>
(if (x2 != 0) = true then
some (0, x2)
else
((sAt p0 4).bind fun x4 =>
(if (x4 == 55) = true then
r02_Kind_J5 x4 true
else
r02_Kind_J5 x4 (x4 == 56)))))

theorem r02_Kind_w (p0 : List UInt8) (r : Int × Int) (w : World) (h : r02_Kind p0 = some r) : CallVC Try.prog 30 [Vs p0] w fun v w' => v = .tuple #[Vi r.1, Vi r.2] ∧ Ev [] w w' := by
 refine calls_vc hmx Try.func30 (by kernel_rfl) rfl (rs := [.tmp 2, .tmp 3]) rfl (by kernel_rfl) (args := [Vs p0]) rfl ?_
 have hev : Ev [] w w := Ev.refl _ _
 have hms : MS w [[]] := ⟨List.pairwise_singleton _ _, fun l hl b hb => by simp only [List.mem_singleton] at hl; subst hl; cases hb⟩
 have hfr : FR w.heap.size [] := FR.nil _
 refine c_sp ?_
 refine x_pure 2 [(2, Vi 0), (3, Vi 0)] _ _ _ (by kernel_rfl) ?_
 refine x_ek ?_
 refine c_seq ?_
 refine c_sp ?_
 refine x_pure 1 [(5, Vs p0)] _ _ _ (by kernel_rfl) ?_
 obtain ⟨x2, hx, h⟩ := bind_some h
 have hcall := r02_Valid_w p0 _ w hx
 refine x_call 29 #[] #[] [Vs p0] _ rfl rfl rfl rfl hcall ?_
 rintro v w3 ⟨rfl, he3⟩
 clear hcall hx
 refine inl1 ?_
 replace hms := hms.ev he3
 replace hev := hev.ext he3
 refine x_pure 1 [(4, Vi x2)] _ _ _ (by kernel_rfl) ?_
 refine x_ek ?_
 refine c_sp ?_
 refine x_pure 2 [(7, Vi x2), (8, .bool (x2 != 0))] _ _ _ (by kernel_rfl) ?_
 refine x_ek ?_
 refine c_cond (x2 != 0) rfl (fun hb => ?_) (fun hb => ?_)
 · replace h := ite_t hb h
   refine c_sp ?_
   refine x_pure 3 [(9, Vi x2), (2, Vi 0), (3, Vi x2)] _ _ _ (by kernel_rfl) ?_
   refine x_ek ?_
   refine c_ret ?_
   refine k_then_ret ?_
   refine r_ret (r_vals [Vi 0, Vi x2] ⟨rfl, rfl, trivial⟩ ?_)
   have hx := some_inj h
   subst hx
   exact ⟨rfl, hev⟩
 replace h := ite_f hb h
 refine c_skip ?_
 refine k_then ?_
 refine c_seq ?_
 refine c_sp ?_
 refine x_pure 1 [(10, Vs p0)] _ _ _ (by kernel_rfl) ?_
 obtain ⟨x4, hx4, h⟩ := bind_some h
 refine x_index (xv := Vs p0) (yv := Vi 4) (.int .u8 x4) rfl rfl rfl rfl (reads_sindex tstr9 hx4) ?_
 refine x_ek ?_
 refine c_block ?_
 refine c_join (σ := Bool) (fun s => match s with | t12__s12_j5 => [(11, .int .u8 x4), (12, .bool t12__s12_j5)]) (fun s w' => match s with | t12__s12_j5 => r02_Kind_J5 x4 t12__s12_j5 = some r ∧ Ev [] w w' ∧ MS w' [[]] ∧ FR w.heap.size []) ?_ ?_
 · refine c_sp ?_
   refine x_pure 2 [(13, .bool (x4 == 55)), (12, .bool (x4 == 55))] _ _ _ (by kernel_rfl) ?_
   refine x_ek ?_
   refine c_cond (x4 == 55) rfl (fun hb => ?_) (fun hb => ?_)
   · replace h := ite_t hb h
     refine c_skip ?_
     exact k_then ⟨true, ⟨rfl, rfl, trivial⟩, h, hev, hms, hfr⟩
   replace h := ite_f hb h
   refine c_plain ?_
   refine x_pure 2 [(14, .bool (x4 == 56)), (12, .bool (x4 == 56))] _ _ _ (by kernel_rfl) ?_
   refine x_end rfl ?_
   exact k_then ⟨x4 == 56, ⟨rfl, rfl, trivial⟩, h, hev, hms, hfr⟩
 rintro t12__s12_j5 J wj5 ⟨h, hev, hms, hfr⟩
 refine c_cond t12__s12_j5 rfl (fun hb => ?_) (fun hb => ?_)
 · replace h := ite_t hb h
   refine c_sp ?_
   refine x_pure 2 [(2, Vi 1), (3, Vi 0)] _ _ _ (by kernel_rfl) ?_
   refine x_ek ?_
   refine c_norm [(2, Vi 1), (3, Vi 0)] ⟨rfl, rfl, trivial⟩ (fun J => ?_)
   refine c_ret ?_
   refine k_block_ret ?_
   refine k_then_ret ?_
   refine r_ret (r_vals [Vi 1, Vi 0] ⟨rfl, rfl, trivial⟩ ?_)
   have hx := some_inj h
   subst hx
   exact ⟨rfl, hev⟩
 replace h := ite_f hb h
 refine c_join (σ := Bool) (fun s => match s with | t15__s15_j6 => [(11, .int .u8 x4), (15, .bool t15__s15_j6)]) (fun s w' => match s with | t15__s15_j6 => r02_Kind_J6 x4 t15__s15_j6 = some r ∧ Ev [] w w' ∧ MS w' [[]] ∧ FR w.heap.size []) ?_ ?_
 · refine c_sp ?_
   refine x_pure 2 [(16, .bool (x4 == 50)), (15, .bool (x4 == 50))] _ _ _ (by kernel_rfl) ?_
   refine x_ek ?_
   refine c_norm [(11, .int .u8 x4), (15, .bool (x4 == 50))] ⟨rfl, rfl, trivial⟩ (fun J => ?_)
   refine c_cond (x4 == 50) rfl (fun hb => ?_) (fun hb => ?_)
   · replace h := ite_t hb h
     refine c_skip ?_
     exact k_then ⟨true, ⟨rfl, rfl, trivial⟩, h, hev, hms, hfr⟩
   replace h := ite_f hb h
   refine c_plain ?_
   refine x_pure 2 [(17, .bool (x4 == 52)), (15, .bool (x4 == 52))] _ _ _ (by kernel_rfl) ?_
   refine x_end rfl ?_
   exact k_then ⟨x4 == 52, ⟨rfl, rfl, trivial⟩, h, hev, hms, hfr⟩
 rintro t15__s15_j6 J wj6 ⟨h, hev, hms, hfr⟩
 refine c_cond t15__s15_j6 rfl (fun hb => ?_) (fun hb => ?_)
 · replace h := ite_t hb h
   refine c_sp ?_
   refine x_pure 2 [(2, Vi 2), (3, Vi 0)] _ _ _ (by kernel_rfl) ?_
   refine x_ek ?_
   refine c_norm [(2, Vi 2), (3, Vi 0)] ⟨rfl, rfl, trivial⟩ (fun J => ?_)
   refine c_ret ?_
   refine k_block_ret ?_
   refine k_then_ret ?_
   refine r_ret (r_vals [Vi 2, Vi 0] ⟨rfl, rfl, trivial⟩ ?_)
   have hx := some_inj h
   subst hx
   exact ⟨rfl, hev⟩
 replace h := ite_f hb h
 refine c_sp ?_
 refine x_pure 2 [(19, .bool (x4 == 57)), (18, .bool (x4 == 57))] _ _ _ (by kernel_rfl) ?_
 refine x_ek ?_
 refine c_norm [(18, .bool (x4 == 57))] ⟨rfl, trivial⟩ (fun J => ?_)
 refine c_cond (x4 == 57) rfl (fun hb => ?_) (fun hb => ?_)
 · replace h := ite_t hb h
   refine c_sp ?_
   refine x_pure 2 [(2, Vi 3), (3, Vi 0)] _ _ _ (by kernel_rfl) ?_
   refine x_ek ?_
   refine c_ret ?_
   refine k_block_ret ?_
   refine k_then_ret ?_
   refine r_ret (r_vals [Vi 3, Vi 0] ⟨rfl, rfl, trivial⟩ ?_)
   have hx := some_inj h
   subst hx
   exact ⟨rfl, hev⟩
 replace h := ite_f hb h
 refine c_skip ?_
 refine k_block ?_
 refine k_then ?_
 refine c_sp ?_
 refine x_pure 2 [(2, Vi 0), (3, Vi 0)] _ _ _ (by kernel_rfl) ?_
 refine x_ek ?_
 refine c_ret ?_
 refine r_ret (r_vals [Vi 0, Vi 0] ⟨rfl, rfl, trivial⟩ ?_)
 have hx := some_inj h
 subst hx
 exact ⟨rfl, hev⟩
def r02_Parse (p0 : List UInt8) : Option ((List UInt8) × Int) :=
(if ((p0.length : Int) != 16) = true then
some (([] : List UInt8), 6)
else
((sAt p0 2).bind fun x2 =>
(if (x2 != 32) = true then
some (([] : List UInt8), 6)
else
((sAt p0 5).bind fun x3 =>
(if (x3 != 32) = true then
some (([] : List UInt8), 6)
else
((sAt p0 10).bind fun x4 =>
(if (x4 != 32) = true then
some (([] : List UInt8), 6)
else
((sAt p0 14).bind fun x5 =>
(if (x5 != 45) = true then
some (([] : List UInt8), 6)
else
(if 0 ≤ (0 : Int) ∧ (0 : Int) ≤ (2 : Int) ∧ (2 : Int) ≤ (p0.length : Int) then
(if 0 ≤ (3 : Int) ∧ (3 : Int) ≤ (5 : Int) ∧ (5 : Int) ≤ (p0.length : Int) then
(if ((p0.drop (Int.toNat 0)).take (Int.toNat 2 - Int.toNat 0)).length + ((p0.drop (Int.toNat 3)).take (Int.toNat 5 - Int.toNat 3)).length ≤ 4294967296 then
(if 0 ≤ (6 : Int) ∧ (6 : Int) ≤ (10 : Int) ∧ (10 : Int) ≤ (p0.length : Int) then
(if (((p0.drop (Int.toNat 0)).take (Int.toNat 2 - Int.toNat 0)) ++ ((p0.drop (Int.toNat 3)).take (Int.toNat 5 - Int.toNat 3))).length + ((p0.drop (Int.toNat 6)).take (Int.toNat 10 - Int.toNat 6)).length ≤ 4294967296 then
(if 0 ≤ (11 : Int) ∧ (11 : Int) ≤ (14 : Int) ∧ (14 : Int) ≤ (p0.length : Int) then
(if ((((p0.drop (Int.toNat 0)).take (Int.toNat 2 - Int.toNat 0)) ++ ((p0.drop (Int.toNat 3)).take (Int.toNat 5 - Int.toNat 3))) ++ ((p0.drop (Int.toNat 6)).take (Int.toNat 10 - Int.toNat 6))).length + ((p0.drop (Int.toNat 11)).take (Int.toNat 14 - Int.toNat 11)).length ≤ 4294967296 then
(if 0 ≤ (15 : Int) ∧ (15 : Int) ≤ ((p0.length : Int) : Int) ∧ ((p0.length : Int) : Int) ≤ (p0.length : Int) then
(if (((((p0.drop (Int.toNat 0)).take (Int.toNat 2 - Int.toNat 0)) ++ ((p0.drop (Int.toNat 3)).take (Int.toNat 5 - Int.toNat 3))) ++ ((p0.drop (Int.toNat 6)).take (Int.toNat 10 - Int.toNat 6))) ++ ((p0.drop (Int.toNat 11)).take (Int.toNat 14 - Int.toNat 11))).length + ((p0.drop (Int.toNat 15)).take (Int.toNat (p0.length : Int) - Int.toNat 15)).length ≤ 4294967296 then
((r02_digits ((((((p0.drop (Int.toNat 0)).take (Int.toNat 2 - Int.toNat 0)) ++ ((p0.drop (Int.toNat 3)).take (Int.toNat 5 - Int.toNat 3))) ++ ((p0.drop (Int.toNat 6)).take (Int.toNat 10 - Int.toNat 6))) ++ ((p0.drop (Int.toNat 11)).take (Int.toNat 14 - Int.toNat 11))) ++ ((p0.drop (Int.toNat 15)).take (Int.toNat (p0.length : Int) - Int.toNat 15))) 12).bind fun x7 =>
(if (!x7) = true then
some (([] : List UInt8), 6)
else
((r02_Valid ((((((p0.drop (Int.toNat 0)).take (Int.toNat 2 - Int.toNat 0)) ++ ((p0.drop (Int.toNat 3)).take (Int.toNat 5 - Int.toNat 3))) ++ ((p0.drop (Int.toNat 6)).take (Int.toNat 10 - Int.toNat 6))) ++ ((p0.drop (Int.toNat 11)).take (Int.toNat 14 - Int.toNat 11))) ++ ((p0.drop (Int.toNat 15)).take (Int.toNat (p0.length : Int) - Int.toNat 15)))).bind fun x9 =>
(if (x9 != 0) = true then
some (([] : List UInt8), x9)
else
some (((((((p0.drop (Int.toNat 0)).take (Int.toNat 2 - Int.toNat 0)) ++ ((p0.drop (Int.toNat 3)).take (Int.toNat 5 - Int.toNat 3))) ++ ((p0.drop (Int.toNat 6)).take (Int.toNat 10 - Int.toNat 6))) ++ ((p0.drop (Int.toNat 11)).take (Int.toNat 14 - Int.toNat 11))) ++ ((p0.drop (Int.toNat 15)).take (Int.toNat (p0.length : Int) - Int.toNat 15))), 0)))))
else none)
else none)
else none)
else none)
else none)
else none)
else none)
else none)
else none))))))))))

theorem r02_Parse_w (p0 : List UInt8) (r : (List UInt8) × Int) (w : World) (h : r02_Parse p0 = some r) : CallVC Try.prog 31 [Vs p0] w fun v w' => v = .tuple #[Vs r.1, Vi r.2] ∧ Ev [] w w' := by
 refine calls_vc hmx Try.func31 (by kernel_rfl) rfl (rs := [.tmp 2, .tmp 3]) rfl (by kernel_rfl) (args := [Vs p0]) rfl ?_
 have hev : Ev [] w w := Ev.refl _ _
 have hms : MS w [[]] := ⟨List.pairwise_singleton _ _, fun l hl b hb => by simp only [List.mem_singleton] at hl; subst hl; cases hb⟩
 have hfr : FR w.heap.size [] := FR.nil _
 refine c_sp ?_
 refine x_pure 2 [(2, Vs ([] : List UInt8)), (3, Vi 0)] _ _ _ (by kernel_rfl) ?_
 refine x_ek ?_
 refine c_seq ?_
 refine c_sp ?_
 refine x_pure 1 [(6, Vs p0)] _ _ _ (by kernel_rfl) ?_
 refine x_len (vs := [Vs p0]) (Vi (p0.length : Int)) rfl rfl rfl (reads_slen tstr9 _) ?_
 refine x_pure 2 [(8, .bool ((p0.length : Int) != 16)), (9, .bool ((p0.length : Int) != 16))] _ _ _ (by kernel_rfl) ?_
 refine x_split 9 ((p0.length : Int) != 16) rfl (fun hb => ?_) (fun hb => ?_)
 · replace h := ite_t hb h
   refine x_pure 19 [(10, undef), (11, undef), (12, undef), (13, .bool true), (14, .bool true), (15, undef), (16, undef), (17, undef), (18, .bool true), (19, .bool true), (20, undef), (21, undef), (22, undef), (23, .bool true), (24, .bool true), (25, undef), (26, undef), (27, undef), (28, .bool true)] _ _ _ (by kernel_rfl) ?_
   refine x_ek ?_
   refine c_norm [(0, Vs p0), (28, .bool true)] ⟨rfl, rfl, trivial⟩ (fun J => ?_)
   refine c_true rfl ?_
   refine c_sp ?_
   refine x_pure 2 [(2, Vs ([] : List UInt8)), (3, Vi 6)] _ _ _ (by kernel_rfl) ?_
   refine x_ek ?_
   refine c_ret ?_
   refine k_then_ret ?_
   refine r_ret (r_vals [Vs ([] : List UInt8), Vi 6] ⟨rfl, rfl, trivial⟩ ?_)
   have hx := some_inj h
   subst hx
   exact ⟨rfl, hev⟩
 replace h := ite_f hb h
 refine x_pure 1 [(10, Vs p0)] _ _ _ (by kernel_rfl) ?_
 obtain ⟨x2, hx2, h⟩ := bind_some h
 refine x_index (xv := Vs p0) (yv := Vi 2) (.int .u8 x2) rfl rfl rfl rfl (reads_sindex tstr9 hx2) ?_
 refine x_pure 3 [(12, .bool (x2 != 32)), (13, .bool (x2 != 32)), (14, .bool (x2 != 32))] _ _ _ (by kernel_rfl) ?_
 refine x_split 14 (x2 != 32) rfl (fun hb => ?_) (fun hb => ?_)
 · replace h := ite_t hb h
   refine x_pure 14 [(15, undef), (16, undef), (17, undef), (18, .bool true), (19, .bool true), (20, undef), (21, undef), (22, undef), (23, .bool true), (24, .bool true), (25, undef), (26, undef), (27, undef), (28, .bool true)] _ _ _ (by kernel_rfl) ?_
   refine x_ek ?_
   refine c_norm [(0, Vs p0), (28, .bool true)] ⟨rfl, rfl, trivial⟩ (fun J => ?_)
   refine c_true rfl ?_
   refine c_sp ?_
   refine x_pure 2 [(2, Vs ([] : List UInt8)), (3, Vi 6)] _ _ _ (by kernel_rfl) ?_
   refine x_ek ?_
   refine c_ret ?_
   refine k_then_ret ?_
   refine r_ret (r_vals [Vs ([] : List UInt8), Vi 6] ⟨rfl, rfl, trivial⟩ ?_)
   have hx := some_inj h
   subst hx
   exact ⟨rfl, hev⟩
 replace h := ite_f hb h
 refine x_pure 1 [(15, Vs p0)] _ _ _ (by kernel_rfl) ?_
 obtain ⟨x3, hx3, h⟩ := bind_some h
 refine x_index (xv := Vs p0) (yv := Vi 5) (.int .u8 x3) rfl rfl rfl rfl (reads_sindex tstr9 hx3) ?_
 refine x_pure 3 [(17, .bool (x3 != 32)), (18, .bool (x3 != 32)), (19, .bool (x3 != 32))] _ _ _ (by kernel_rfl) ?_
 refine x_split 19 (x3 != 32) rfl (fun hb => ?_) (fun hb => ?_)
 · replace h := ite_t hb h
   refine x_pure 9 [(20, undef), (21, undef), (22, undef), (23, .bool true), (24, .bool true), (25, undef), (26, undef), (27, undef), (28, .bool true)] _ _ _ (by kernel_rfl) ?_
   refine x_ek ?_
   refine c_norm [(0, Vs p0), (28, .bool true)] ⟨rfl, rfl, trivial⟩ (fun J => ?_)
   refine c_true rfl ?_
   refine c_sp ?_
   refine x_pure 2 [(2, Vs ([] : List UInt8)), (3, Vi 6)] _ _ _ (by kernel_rfl) ?_
   refine x_ek ?_
   refine c_ret ?_
   refine k_then_ret ?_
   refine r_ret (r_vals [Vs ([] : List UInt8), Vi 6] ⟨rfl, rfl, trivial⟩ ?_)
   have hx := some_inj h
   subst hx
   exact ⟨rfl, hev⟩
 replace h := ite_f hb h
 refine x_pure 1 [(20, Vs p0)] _ _ _ (by kernel_rfl) ?_
 obtain ⟨x4, hx4, h⟩ := bind_some h
 refine x_index (xv := Vs p0) (yv := Vi 10) (.int .u8 x4) rfl rfl rfl rfl (reads_sindex tstr9 hx4) ?_
 refine x_pure 3 [(22, .bool (x4 != 32)), (23, .bool (x4 != 32)), (24, .bool (x4 != 32))] _ _ _ (by kernel_rfl) ?_
 refine x_split 24 (x4 != 32) rfl (fun hb => ?_) (fun hb => ?_)
 · replace h := ite_t hb h
   refine x_pure 4 [(25, undef), (26, undef), (27, undef), (28, .bool true)] _ _ _ (by kernel_rfl) ?_
   refine x_ek ?_
   refine c_norm [(0, Vs p0), (28, .bool true)] ⟨rfl, rfl, trivial⟩ (fun J => ?_)
   refine c_true rfl ?_
   refine c_sp ?_
   refine x_pure 2 [(2, Vs ([] : List UInt8)), (3, Vi 6)] _ _ _ (by kernel_rfl) ?_
   refine x_ek ?_
   refine c_ret ?_
   refine k_then_ret ?_
   refine r_ret (r_vals [Vs ([] : List UInt8), Vi 6] ⟨rfl, rfl, trivial⟩ ?_)
   have hx := some_inj h
   subst hx
   exact ⟨rfl, hev⟩
 replace h := ite_f hb h
 refine x_pure 1 [(25, Vs p0)] _ _ _ (by kernel_rfl) ?_
 obtain ⟨x5, hx5, h⟩ := bind_some h
 refine x_index (xv := Vs p0) (yv := Vi 14) (.int .u8 x5) rfl rfl rfl rfl (reads_sindex tstr9 hx5) ?_
 refine x_pure 2 [(27, .bool (x5 != 45)), (28, .bool (x5 != 45))] _ _ _ (by kernel_rfl) ?_
 refine x_ek ?_
 refine c_norm [(0, Vs p0), (28, .bool (x5 != 45))] ⟨rfl, rfl, trivial⟩ (fun J => ?_)
 refine c_cond (x5 != 45) rfl (fun hb => ?_) (fun hb => ?_)
 · replace h := ite_t hb h
   refine c_sp ?_
   refine x_pure 2 [(2, Vs ([] : List UInt8)), (3, Vi 6)] _ _ _ (by kernel_rfl) ?_
   refine x_ek ?_
   refine c_ret ?_
   refine k_then_ret ?_
   refine r_ret (r_vals [Vs ([] : List UInt8), Vi 6] ⟨rfl, rfl, trivial⟩ ?_)
   have hx := some_inj h
   subst hx
   exact ⟨rfl, hev⟩
 replace h := ite_f hb h
 refine c_skip ?_
 refine k_then ?_
 refine c_seq ?_
 refine c_drawn [] [(0, false), (1, false), (2, false), (3, false), (4, false), (5, false), (6, false), (7, false), (8, false), (9, false), (10, false), (11, false), (12, false), (13, false), (14, false)] _ (by kernel_rfl) rfl ?_
 replace hms := hms.ev (Ev.drew w)
 replace hev := hev.ext (Ev.drew w)
 refine x_pure 1 [(29, Vs p0)] _ _ _ (by kernel_rfl) ?_
 have hg := guard_l h
 replace h := guard_r h
 refine x_slice (xv := Vs p0) (lv := (some (Vi 0))) (hv := (some (Vi 2))) (mv := none) (Vs ((p0.drop (Int.toNat 0)).take (Int.toNat 2 - Int.toNat 0))) rfl rfl rfl rfl rfl rfl (reads_scut tstr9 _ (some 0) (some 2) hg) ?_
 refine x_pure 1 [(31, Vs p0)] _ _ _ (by kernel_rfl) ?_
 have hg := guard_l h
 replace h := guard_r h
 refine x_slice (xv := Vs p0) (lv := (some (Vi 3))) (hv := (some (Vi 5))) (mv := none) (Vs ((p0.drop (Int.toNat 3)).take (Int.toNat 5 - Int.toNat 3))) rfl rfl rfl rfl rfl rfl (reads_scut tstr9 _ (some 3) (some 5) hg) ?_
 refine x_binop (Vs (((p0.drop (Int.toNat 0)).take (Int.toNat 2 - Int.toNat 0)) ++ ((p0.drop (Int.toNat 3)).take (Int.toNat 5 - Int.toNat 3)))) (Vs ((p0.drop (Int.toNat 0)).take (Int.toNat 2 - Int.toNat 0))) (Vs ((p0.drop (Int.toNat 3)).take (Int.toNat 5 - Int.toNat 3))) rfl rfl rfl rfl (bin_sadd (guard_l h)) ?_
 replace h := guard_r h
 refine x_pure 1 [(34, Vs p0)] _ _ _ (by kernel_rfl) ?_
 have hg := guard_l h
 replace h := guard_r h
 refine x_slice (xv := Vs p0) (lv := (some (Vi 6))) (hv := (some (Vi 10))) (mv := none) (Vs ((p0.drop (Int.toNat 6)).take (Int.toNat 10 - Int.toNat 6))) rfl rfl rfl rfl rfl rfl (reads_scut tstr9 _ (some 6) (some 10) hg) ?_
 refine x_binop (Vs ((((p0.drop (Int.toNat 0)).take (Int.toNat 2 - Int.toNat 0)) ++ ((p0.drop (Int.toNat 3)).take (Int.toNat 5 - Int.toNat 3))) ++ ((p0.drop (Int.toNat 6)).take (Int.toNat 10 - Int.toNat 6)))) (Vs (((p0.drop (Int.toNat 0)).take (Int.toNat 2 - Int.toNat 0)) ++ ((p0.drop (Int.toNat 3)).take (Int.toNat 5 - Int.toNat 3)))) (Vs ((p0.drop (Int.toNat 6)).take (Int.toNat 10 - Int.toNat 6))) rfl rfl rfl rfl (bin_sadd (guard_l h)) ?_
 replace h := guard_r h
 refine x_pure 1 [(37, Vs p0)] _ _ _ (by kernel_rfl) ?_
 have hg := guard_l h
 replace h := guard_r h
 refine x_slice (xv := Vs p0) (lv := (some (Vi 11))) (hv := (some (Vi 14))) (mv := none) (Vs ((p0.drop (Int.toNat 11)).take (Int.toNat 14 - Int.toNat 11))) rfl rfl rfl rfl rfl rfl (reads_scut tstr9 _ (some 11) (some 14) hg) ?_
 refine x_binop (Vs (((((p0.drop (Int.toNat 0)).take (Int.toNat 2 - Int.toNat 0)) ++ ((p0.drop (Int.toNat 3)).take (Int.toNat 5 - Int.toNat 3))) ++ ((p0.drop (Int.toNat 6)).take (Int.toNat 10 - Int.toNat 6))) ++ ((p0.drop (Int.toNat 11)).take (Int.toNat 14 - Int.toNat 11)))) (Vs ((((p0.drop (Int.toNat 0)).take (Int.toNat 2 - Int.toNat 0)) ++ ((p0.drop (Int.toNat 3)).take (Int.toNat 5 - Int.toNat 3))) ++ ((p0.drop (Int.toNat 6)).take (Int.toNat 10 - Int.toNat 6)))) (Vs ((p0.drop (Int.toNat 11)).take (Int.toNat 14 - Int.toNat 11))) rfl rfl rfl rfl (bin_sadd (guard_l h)) ?_
 replace h := guard_r h
 refine x_pure 1 [(40, Vs p0)] _ _ _ (by kernel_rfl) ?_
 have hg := guard_l h
 replace h := guard_r h
 refine x_slice (xv := Vs p0) (lv := (some (Vi 15))) (hv := none) (mv := none) (Vs ((p0.drop (Int.toNat 15)).take (Int.toNat (p0.length : Int) - Int.toNat 15))) rfl rfl rfl rfl rfl rfl (reads_scut tstr9 _ (some 15) none hg) ?_
 refine x_binop (Vs ((((((p0.drop (Int.toNat 0)).take (Int.toNat 2 - Int.toNat 0)) ++ ((p0.drop (Int.toNat 3)).take (Int.toNat 5 - Int.toNat 3))) ++ ((p0.drop (Int.toNat 6)).take (Int.toNat 10 - Int.toNat 6))) ++ ((p0.drop (Int.toNat 11)).take (Int.toNat 14 - Int.toNat 11))) ++ ((p0.drop (Int.toNat 15)).take (Int.toNat (p0.length : Int) - Int.toNat 15)))) (Vs (((((p0.drop (Int.toNat 0)).take (Int.toNat 2 - Int.toNat 0)) ++ ((p0.drop (Int.toNat 3)).take (Int.toNat 5 - Int.toNat 3))) ++ ((p0.drop (Int.toNat 6)).take (Int.toNat 10 - Int.toNat 6))) ++ ((p0.drop (Int.toNat 11)).take (Int.toNat 14 - Int.toNat 11)))) (Vs ((p0.drop (Int.toNat 15)).take (Int.toNat (p0.length : Int) - Int.toNat 15))) rfl rfl rfl rfl (bin_sadd (guard_l h)) ?_
 replace h := guard_r h
 refine x_pure 1 [(4, Vs ((((((p0.drop (Int.toNat 0)).take (Int.toNat 2 - Int.toNat 0)) ++ ((p0.drop (Int.toNat 3)).take (Int.toNat 5 - Int.toNat 3))) ++ ((p0.drop (Int.toNat 6)).take (Int.toNat 10 - Int.toNat 6))) ++ ((p0.drop (Int.toNat 11)).take (Int.toNat 14 - Int.toNat 11))) ++ ((p0.drop (Int.toNat 15)).take (Int.toNat (p0.length : Int) - Int.toNat 15))))] _ _ _ (by kernel_rfl) ?_
 refine x_ek ?_
 refine c_norm [(4, Vs ((((((p0.drop (Int.toNat 0)).take (Int.toNat 2 - Int.toNat 0)) ++ ((p0.drop (Int.toNat 3)).take (Int.toNat 5 - Int.toNat 3))) ++ ((p0.drop (Int.toNat 6)).take (Int.toNat 10 - Int.toNat 6))) ++ ((p0.drop (Int.toNat 11)).take (Int.toNat 14 - Int.toNat 11))) ++ ((p0.drop (Int.toNat 15)).take (Int.toNat (p0.length : Int) - Int.toNat 15))))] ⟨rfl, trivial⟩ (fun J => ?_)
 refine c_seq ?_
 refine c_sp ?_
 refine x_pure 1 [(43, Vs ((((((p0.drop (Int.toNat 0)).take (Int.toNat 2 - Int.toNat 0)) ++ ((p0.drop (Int.toNat 3)).take (Int.toNat 5 - Int.toNat 3))) ++ ((p0.drop (Int.toNat 6)).take (Int.toNat 10 - Int.toNat 6))) ++ ((p0.drop (Int.toNat 11)).take (Int.toNat 14 - Int.toNat 11))) ++ ((p0.drop (Int.toNat 15)).take (Int.toNat (p0.length : Int) - Int.toNat 15))))] _ _ _ (by kernel_rfl) ?_
 obtain ⟨x7, hx, h⟩ := bind_some h
 have hcall := r02_digits_w ((((((p0.drop (Int.toNat 0)).take (Int.toNat 2 - Int.toNat 0)) ++ ((p0.drop (Int.toNat 3)).take (Int.toNat 5 - Int.toNat 3))) ++ ((p0.drop (Int.toNat 6)).take (Int.toNat 10 - Int.toNat 6))) ++ ((p0.drop (Int.toNat 11)).take (Int.toNat 14 - Int.toNat 11))) ++ ((p0.drop (Int.toNat 15)).take (Int.toNat (p0.length : Int) - Int.toNat 15))) 12 _ (w).drew hx
 refine x_call 34 #[] #[] [Vs ((((((p0.drop (Int.toNat 0)).take (Int.toNat 2 - Int.toNat 0)) ++ ((p0.drop (Int.toNat 3)).take (Int.toNat 5 - Int.toNat 3))) ++ ((p0.drop (Int.toNat 6)).take (Int.toNat 10 - Int.toNat 6))) ++ ((p0.drop (Int.toNat 11)).take (Int.toNat 14 - Int.toNat 11))) ++ ((p0.drop (Int.toNat 15)).take (Int.toNat (p0.length : Int) - Int.toNat 15))), Vi 12] _ rfl rfl rfl rfl hcall ?_
 rintro v w8 ⟨rfl, he8⟩
 clear hcall hx
 refine inl1 ?_
 replace hms := hms.ev he8
 replace hev := hev.ext he8
 refine x_pure 1 [(45, .bool (!x7))] _ _ _ (by kernel_rfl) ?_
 refine x_ek ?_
 refine c_cond (!x7) rfl (fun hb => ?_) (fun hb => ?_)
 · replace h := ite_t hb h
   refine c_sp ?_
   refine x_pure 2 [(2, Vs ([] : List UInt8)), (3, Vi 6)] _ _ _ (by kernel_rfl) ?_
   refine x_ek ?_
   refine c_ret ?_
   refine k_then_ret ?_
   refine r_ret (r_vals [Vs ([] : List UInt8), Vi 6] ⟨rfl, rfl, trivial⟩ ?_)
   have hx := some_inj h
   subst hx
   exact ⟨rfl, hev⟩
 replace h := ite_f hb h
 refine c_skip ?_
 refine k_then ?_
 refine c_seq ?_
 refine c_sp ?_
 refine x_pure 1 [(46, Vs ((((((p0.drop (Int.toNat 0)).take (Int.toNat 2 - Int.toNat 0)) ++ ((p0.drop (Int.toNat 3)).take (Int.toNat 5 - Int.toNat 3))) ++ ((p0.drop (Int.toNat 6)).take (Int.toNat 10 - Int.toNat 6))) ++ ((p0.drop (Int.toNat 11)).take (Int.toNat 14 - Int.toNat 11))) ++ ((p0.drop (Int.toNat 15)).take (Int.toNat (p0.length : Int) - Int.toNat 15))))] _ _ _ (by kernel_rfl) ?_
 obtain ⟨x9, hx, h⟩ := bind_some h
 have hcall := r02_Valid_w ((((((p0.drop (Int.toNat 0)).take (Int.toNat 2 - Int.toNat 0)) ++ ((p0.drop (Int.toNat 3)).take (Int.toNat 5 - Int.toNat 3))) ++ ((p0.drop (Int.toNat 6)).take (Int.toNat 10 - Int.toNat 6))) ++ ((p0.drop (Int.toNat 11)).take (Int.toNat 14 - Int.toNat 11))) ++ ((p0.drop (Int.toNat 15)).take (Int.toNat (p0.length : Int) - Int.toNat 15))) _ w8 hx
 refine x_call 29 #[] #[] [Vs ((((((p0.drop (Int.toNat 0)).take (Int.toNat 2 - Int.toNat 0)) ++ ((p0.drop (Int.toNat 3)).take (Int.toNat 5 - Int.toNat 3))) ++ ((p0.drop (Int.toNat 6)).take (Int.toNat 10 - Int.toNat 6))) ++ ((p0.drop (Int.toNat 11)).take (Int.toNat 14 - Int.toNat 11))) ++ ((p0.drop (Int.toNat 15)).take (Int.toNat (p0.length : Int) - Int.toNat 15)))] _ rfl rfl rfl rfl hcall ?_
 rintro v w10 ⟨rfl, he10⟩
 clear hcall hx
 refine inl1 ?_
 replace hms := hms.ev he10
 replace hev := hev.ext he10
 refine x_pure 1 [(5, Vi x9)] _ _ _ (by kernel_rfl) ?_
 refine x_ek ?_
 refine c_sp ?_
 refine x_pure 2 [(48, Vi x9), (49, .bool (x9 != 0))] _ _ _ (by kernel_rfl) ?_
 refine x_ek ?_
 refine c_cond (x9 != 0) rfl (fun hb => ?_) (fun hb => ?_)
 · replace h := ite_t hb h
   refine c_sp ?_
   refine x_pure 3 [(50, Vi x9), (2, Vs ([] : List UInt8)), (3, Vi x9)] _ _ _ (by kernel_rfl) ?_
   refine x_ek ?_
   refine c_ret ?_
   refine k_then_ret ?_
   refine r_ret (r_vals [Vs ([] : List UInt8), Vi x9] ⟨rfl, rfl, trivial⟩ ?_)
   have hx := some_inj h
   subst hx
   exact ⟨rfl, hev⟩
 replace h := ite_f hb h
 refine c_skip ?_
 refine k_then ?_
 refine c_sp ?_
 refine x_pure 3 [(51, Vs ((((((p0.drop (Int.toNat 0)).take (Int.toNat 2 - Int.toNat 0)) ++ ((p0.drop (Int.toNat 3)).take (Int.toNat 5 - Int.toNat 3))) ++ ((p0.drop (Int.toNat 6)).take (Int.toNat 10 - Int.toNat 6))) ++ ((p0.drop (Int.toNat 11)).take (Int.toNat 14 - Int.toNat 11))) ++ ((p0.drop (Int.toNat 15)).take (Int.toNat (p0.length : Int) - Int.toNat 15)))), (2, Vs ((((((p0.drop (Int.toNat 0)).take (Int.toNat 2 - Int.toNat 0)) ++ ((p0.drop (Int.toNat 3)).take (Int.toNat 5 - Int.toNat 3))) ++ ((p0.drop (Int.toNat 6)).take (Int.toNat 10 - Int.toNat 6))) ++ ((p0.drop (Int.toNat 11)).take (Int.toNat 14 - Int.toNat 11))) ++ ((p0.drop (Int.toNat 15)).take (Int.toNat (p0.length : Int) - Int.toNat 15)))), (3, Vi 0)] _ _ _ (by kernel_rfl) ?_
 refine x_ek ?_
 refine c_ret ?_
 refine r_ret (r_vals [Vs ((((((p0.drop (Int.toNat 0)).take (Int.toNat 2 - Int.toNat 0)) ++ ((p0.drop (Int.toNat 3)).take (Int.toNat 5 - Int.toNat 3))) ++ ((p0.drop (Int.toNat 6)).take (Int.toNat 10 - Int.toNat 6))) ++ ((p0.drop (Int.toNat 11)).take (Int.toNat 14 - Int.toNat 11))) ++ ((p0.drop (Int.toNat 15)).take (Int.toNat (p0.length : Int) - Int.toNat 15))), Vi 0] ⟨rfl, rfl, trivial⟩ ?_)
 have hx := some_inj h
 subst hx
 exact ⟨rfl, hev⟩
def r02_insert_J6 (p0 : List (List UInt8)) (p1 : List UInt8) (v_at_s5_j2 : Int) : Option (List (List UInt8)) :=
(if 0 ≤ (0 : Int) ∧ (0 : Int) ≤ v_at_s5_j2 ∧ v_at_s5_j2 ≤ (p0.length : Int) then
(if ([] : List (List UInt8)).length + ((p0.drop (Int.toNat (0 : Int))).take (Int.toNat v_at_s5_j2 - Int.toNat (0 : Int))).length ≤ 4294967296 then
(if (([] : List (List UInt8)) ++ ((p0.drop (Int.toNat (0 : Int))).take (Int.toNat v_at_s5_j2 - Int.toNat (0 : Int)))).length + ([p1] : List (List UInt8)).length ≤ 4294967296 then
(if 0 ≤ v_at_s5_j2 ∧ v_at_s5_j2 ≤ (p0.length : Int) ∧ (p0.length : Int) ≤ (p0.length : Int) then
(if ((([] : List (List UInt8)) ++ ((p0.drop (Int.toNat (0 : Int))).take (Int.toNat v_at_s5_j2 - Int.toNat (0 : Int)))) ++ ([p1] : List (List UInt8))).length + ((p0.drop (Int.toNat v_at_s5_j2)).take (Int.toNat (p0.length : Int) - Int.toNat v_at_s5_j2)).length ≤ 4294967296 then
some (((([] : List (List UInt8)) ++ ((p0.drop (Int.toNat (0 : Int))).take (Int.toNat v_at_s5_j2 - Int.toNat (0 : Int)))) ++ ([p1] : List (List UInt8))) ++ ((p0.drop (Int.toNat v_at_s5_j2)).take (Int.toNat (p0.length : Int) - Int.toNat v_at_s5_j2)))
else none)
else none)
else none)
else none)
else none)

def r02_insert_J2 (p0 : List (List UInt8)) (p1 : List UInt8) (v_at_s5_j2 : Int) : Option (List (List UInt8)) :=
(if (decide (v_at_s5_j2 < ((p0).length : Int))) = true then
((idx p0 v_at_s5_j2).bind fun x7 =>
(if (x7 == p1) = true then
some p0
else
r02_insert_J6 p0 p1 v_at_s5_j2))
else
r02_insert_J6 p0 p1 v_at_s5_j2)

def r02_insert_L3 (p0 : List (List UInt8)) (p1 : List UInt8) (s : Int) : Option (Step Int Int) :=
match s with
| v_at_s5_l3 =>
(if (decide (v_at_s5_l3 < ((p0).length : Int))) = true then
((idx p0 v_at_s5_l3).bind fun x4 =>
(if (sLt x4 p1) = true then
some (.next (IntKind.i64.wrap (v_at_s5_l3 + 1)))
else
some (.done v_at_s5_l3)))
else
some (.done v_at_s5_l3))

def r02_insert (p0 : List (List UInt8)) (p1 : List UInt8) : Option (List (List UInt8)) :=
((loop (r02_insert_L3 p0 p1) 0).bind fun d => match d with
| v_at_s5_x3 => r02_insert_J2 p0 p1 v_at_s5_x3)

theorem r02_insert_w (a_p0 : Option Addr) (c_p0 : Nat) (p0 : List (List UInt8)) (p1 : List UInt8) (r : (List (List UInt8))) (w : World) (M : List Nat) (hms : MS w [M]) (hs_p0 : SlR eStr w (fl [M]) a_p0 c_p0 p0) (h : r02_insert p0 p1 = some r) : CallVC Try.prog 39 [.slice a_p0 (p0).length c_p0, Vs p1] w fun v w' => ∃ (a0' : Option Addr), ∃ (c0' : Nat), v = .slice a0' (r).length c0' ∧ Ev [] w w' ∧ SlR eStr w' (fl [M]) a0' c0' r := by
 refine calls_vc hmx Try.func39 (by kernel_rfl) rfl (rs := [.tmp 4]) rfl (by kernel_rfl) (args := [.slice a_p0 (p0).length c_p0, Vs p1]) rfl ?_
 have hev : Ev [] w w := Ev.refl _ _
 have hfr : FR w.heap.size [] := FR.nil _
 refine c_sp ?_
 refine x_pure 1 [(4, .slice none 0 0)] _ _ _ (by kernel_rfl) ?_
 refine x_ek ?_
 refine c_sp ?_
 refine x_pure 1 [(5, Vi 0)] _ _ _ (by kernel_rfl) ?_
 refine x_ek ?_
 refine c_join (σ := Int) (fun s => match s with | v_at_s5_j2 => [(0, .slice a_p0 (p0).length c_p0), (1, Vs p1), (5, Vi v_at_s5_j2)]) (fun s w' => match s with | v_at_s5_j2 => r02_insert_J2 p0 p1 v_at_s5_j2 = some r ∧ Ev [] w w' ∧ MS w' [M] ∧ FR w.heap.size [] ∧ SlR eStr w' (fl [M]) a_p0 c_p0 p0) ?_ ?_
 · refine c_block ?_
   obtain ⟨d3, hd3, h3⟩ := bind_some h
   obtain ⟨m3, hd3⟩ := loop_some hd3
   refine c_loop (loop_rule hmx (σ := Nat × Int) (fun s => match s with | (_, v_at_s5_l3) => [(0, .slice a_p0 (p0).length c_p0), (1, Vs p1), (5, Vi v_at_s5_l3)]) (fun s w' => match s with | (m, v_at_s5_l3) => loopN (r02_insert_L3 p0 p1) m v_at_s5_l3 = some d3 ∧ Ev [] w w' ∧ MS w' [M] ∧ FR w.heap.size [] ∧ SlR eStr w' (fl [M]) a_p0 c_p0 p0) (fun s => s.1) (m3, 0) ⟨rfl, rfl, rfl, trivial⟩ ⟨hd3, hev, hms, hfr, hs_p0⟩ ?_)
   rintro ⟨m3, v_at_s5_l3⟩ J wl3 ⟨hn3, hev, hms, hfr, hs_p0⟩
   rcases m3 with _ | m3
   · exact (loopN_zero hn3).elim
   obtain ⟨t3, h, hn3⟩ := bind_some hn3
   refine c_seq ?_
   refine c_sp ?_
   refine x_pure 2 [(7, Vi v_at_s5_l3), (8, .slice a_p0 (p0).length c_p0)] _ _ _ (by kernel_rfl) ?_
   refine x_len (vs := [.slice a_p0 (p0).length c_p0]) (Vi ((p0).length : Int)) rfl rfl rfl (reads_len tsl29 _ _ _ _ _) ?_
   refine x_pure 2 [(10, .bool (decide (v_at_s5_l3 < ((p0).length : Int)))), (11, .bool (decide (v_at_s5_l3 < ((p0).length : Int))))] _ _ _ (by kernel_rfl) ?_
   refine x_split 11 (decide (v_at_s5_l3 < ((p0).length : Int))) rfl (fun hb => ?_) (fun hb => ?_)
   · replace h := ite_t hb h
     refine x_pure 2 [(12, .slice a_p0 (p0).length c_p0), (13, Vi v_at_s5_l3)] _ _ _ (by kernel_rfl) ?_
     obtain ⟨x4, hx4, h⟩ := bind_some h
     obtain ⟨ad4, cs4, hr4, hc4, hR⟩ := reads_index (Mo := []) tsl29 hs_p0 hx4
     obtain rfl := hR
     refine x_indexAddr (xv := .slice a_p0 (p0).length c_p0) (yv := Vi v_at_s5_l3) (.pointer (some ad4)) rfl rfl rfl rfl hr4 ?_
     refine x_load (xv := .pointer (some ad4)) (Vs x4) rfl rfl rfl (reads_cell0 tcell9 hc4 (fun _ h => by cases h)) ?_
     refine x_pure 1 [(16, Vs p1)] _ _ _ (by kernel_rfl) ?_
     refine x_binop (.bool (sLt x4 p1)) (Vs x4) (Vs p1) rfl rfl rfl rfl (bin_slt) ?_
     refine x_pure 1 [(18, .bool (sLt x4 p1))] _ _ _ (by kernel_rfl) ?_
     refine x_ek ?_
     refine c_norm [(0, .slice a_p0 (p0).length c_p0), (1, Vs p1), (5, Vi v_at_s5_l3), (18, .bool (sLt x4 p1))] ⟨rfl, rfl, rfl, rfl, trivial⟩ (fun J => ?_)
     refine c_cond (sLt x4 p1) rfl (fun hb => ?_) (fun hb => ?_)
     · replace h := ite_t hb h
       refine c_skip ?_
       refine k_then ?_
       refine c_block ?_
       refine c_plain ?_
       refine x_pure 3 [(19, Vi v_at_s5_l3), (20, Vi (IntKind.i64.wrap (v_at_s5_l3 + 1))), (5, Vi (IntKind.i64.wrap (v_at_s5_l3 + 1)))] _ _ _ (by kernel_rfl) ?_
       refine x_end rfl ?_
       refine k_block ?_
       have hx := some_inj h
       subst hx
       exact k_then ⟨(m3, IntKind.i64.wrap (v_at_s5_l3 + 1)), ⟨rfl, rfl, rfl, trivial⟩, ⟨hn3, hev, hms, hfr, hs_p0⟩, Nat.lt_succ_self _⟩
     replace h := ite_f hb h
     refine c_exit ?_
     refine k_then_exit ?_
     have hx := some_inj h
     subst hx
     have hy := some_inj hn3
     subst hy
     replace h := h3
     refine k_then_exit ?_
     refine k_block_in ?_
     exact k_then ⟨v_at_s5_l3, ⟨rfl, rfl, rfl, trivial⟩, h, hev, hms, hfr, hs_p0⟩
   replace h := ite_f hb h
   refine x_pure 7 [(12, undef), (13, undef), (14, undef), (15, undef), (16, undef), (17, undef), (18, .bool false)] _ _ _ (by kernel_rfl) ?_
   refine x_ek ?_
   refine c_norm [(0, .slice a_p0 (p0).length c_p0), (1, Vs p1), (5, Vi v_at_s5_l3), (18, .bool false)] ⟨rfl, rfl, rfl, rfl, trivial⟩ (fun J => ?_)
   refine c_false rfl ?_
   refine c_exit ?_
   refine k_then_exit ?_
   have hx := some_inj h
   subst hx
   have hy := some_inj hn3
   subst hy
   replace h := h3
   refine k_then_exit ?_
   refine k_block_in ?_
   exact k_then ⟨v_at_s5_l3, ⟨rfl, rfl, rfl, trivial⟩, h, hev, hms, hfr, hs_p0⟩
 rintro v_at_s5_j2 J wj2 ⟨h, hev, hms, hfr, hs_p0⟩
 refine c_join (σ := Unit) (fun s => match s with | _ => [(0, .slice a_p0 (p0).length c_p0), (1, Vs p1), (5, Vi v_at_s5_j2)]) (fun s w' => match s with | _ => r02_insert_J6 p0 p1 v_at_s5_j2 = some r ∧ Ev [] w w' ∧ MS w' [M] ∧ FR w.heap.size [] ∧ SlR eStr w' (fl [M]) a_p0 c_p0 p0) ?_ ?_
 · refine c_sp ?_
   refine x_pure 2 [(21, Vi v_at_s5_j2), (22, .slice a_p0 (p0).length c_p0)] _ _ _ (by kernel_rfl) ?_
   refine x_len (vs := [.slice a_p0 (p0).length c_p0]) (Vi ((p0).length : Int)) rfl rfl rfl (reads_len tsl29 _ _ _ _ _) ?_
   refine x_pure 2 [(24, .bool (decide (v_at_s5_j2 < ((p0).length : Int)))), (25, .bool (decide (v_at_s5_j2 < ((p0).length : Int))))] _ _ _ (by kernel_rfl) ?_
   refine x_split 25 (decide (v_at_s5_j2 < ((p0).length : Int))) rfl (fun hb => ?_) (fun hb => ?_)
   · replace h := ite_t hb h
     refine x_pure 2 [(26, .slice a_p0 (p0).length c_p0), (27, Vi v_at_s5_j2)] _ _ _ (by kernel_rfl) ?_
     obtain ⟨x7, hx7, h⟩ := bind_some h
     obtain ⟨ad7, cs7, hr7, hc7, hR⟩ := reads_index (Mo := []) tsl29 hs_p0 hx7
     obtain rfl := hR
     refine x_indexAddr (xv := .slice a_p0 (p0).length c_p0) (yv := Vi v_at_s5_j2) (.pointer (some ad7)) rfl rfl rfl rfl hr7 ?_
     refine x_load (xv := .pointer (some ad7)) (Vs x7) rfl rfl rfl (reads_cell0 tcell9 hc7 (fun _ h => by cases h)) ?_
     refine x_pure 1 [(30, Vs p1)] _ _ _ (by kernel_rfl) ?_
     refine x_binop (.bool (x7 == p1)) (Vs x7) (Vs p1) rfl rfl rfl rfl (bin_seq) ?_
     refine x_pure 1 [(32, .bool (x7 == p1))] _ _ _ (by kernel_rfl) ?_
     refine x_ek ?_
     refine c_norm [(0, .slice a_p0 (p0).length c_p0), (1, Vs p1), (5, Vi v_at_s5_j2), (32, .bool (x7 == p1))] ⟨rfl, rfl, rfl, rfl, trivial⟩ (fun J => ?_)
     refine c_cond (x7 == p1) rfl (fun hb => ?_) (fun hb => ?_)
     · replace h := ite_t hb h
       refine c_sp ?_
       refine x_pure 2 [(33, .slice a_p0 (p0).length c_p0), (4, .slice a_p0 (p0).length c_p0)] _ _ _ (by kernel_rfl) ?_
       refine x_ek ?_
       refine c_ret ?_
       refine k_then_ret ?_
       refine r_ret (r_vals [.slice a_p0 (p0).length c_p0] ⟨rfl, trivial⟩ ?_)
       have hx := some_inj h
       subst hx
       have hmr : MS wj2 [M] := hms.pick [some 0] _ rfl
       have hsu : ∀ x ∈ fl [M], x ∈ fl [M] := pick_sub [some 0] _ rfl
       exact ⟨a_p0, c_p0, rfl, hev, hs_p0.sub hsu⟩
     replace h := ite_f hb h
     refine c_skip ?_
     exact k_then ⟨(), ⟨rfl, rfl, rfl, trivial⟩, h, hev, hms, hfr, hs_p0⟩
   replace h := ite_f hb h
   refine x_pure 7 [(26, undef), (27, undef), (28, undef), (29, undef), (30, undef), (31, undef), (32, .bool false)] _ _ _ (by kernel_rfl) ?_
   refine x_ek ?_
   refine c_norm [(0, .slice a_p0 (p0).length c_p0), (1, Vs p1), (5, Vi v_at_s5_j2), (32, .bool false)] ⟨rfl, rfl, rfl, rfl, trivial⟩ (fun J => ?_)
   refine c_false rfl ?_
   refine c_skip ?_
   exact k_then ⟨(), ⟨rfl, rfl, rfl, trivial⟩, h, hev, hms, hfr, hs_p0⟩
 rintro _ J wj6 ⟨h, hev, hms, hfr, hs_p0⟩
 refine c_sp ?_
 refine x_buildSlice (vs := []) #[] 9 rfl rfl rfl (by kernel_rfl) (fun b9 w9 hq9 hb9 he9 hz9 => ?_)
 refine inl1 ?_
 obtain ⟨a9, ea9⟩ : ∃ a, a = some (⟨b9, 0, none⟩ : Addr) := ⟨_, rfl⟩
 have hw9 : ∀ M, OwnS eStr 9 w9 M a9 0 ([] : List (List UInt8)) := fun M => ea9 ▸ own_of_box hb9 (by decide) rfl rfl (cells_at (cs := []) CellsOf.nil)
 have hn9 : ∀ b ∈ blk a9, wj6.heap.size ≤ b ∧ b < w9.heap.size := by subst ea9; intro b hb; simp only [blk, List.mem_singleton] at hb; subst hb; exact ⟨Nat.le_of_eq hq9.symm, lt_of_heap hb9⟩
 clear hb9
 have hst := Stp.push (ls := [M]) (l := blk a9) he9 (fun _ h => by cases h) (fun b hb => (hn9 b hb).1)
 replace hs_p0 := hs_p0.step hst
 replace hms := hms.push he9 hn9
 replace hfr := hfr.push (fun b hb => Nat.le_trans hev.size (hn9 b hb).1)
 replace hev := hev.ext he9
 have ho9 := hw9 (fl [blk a9, M])
 clear hw9
 rw [← ea9]
 refine x_pure 2 [(35, .slice a_p0 (p0).length c_p0), (36, Vi v_at_s5_j2)] _ _ _ (by kernel_rfl) ?_
 have hg := guard_l h
 replace h := guard_r h
 obtain ⟨a11, c11, hr11, hs11⟩ := SlR.sliced (P := Try.prog) (Mo := []) tsl29 hs_p0 none (some v_at_s5_j2) hg
 replace hs11 : SlR eStr w9 (fl [blk a9, M]) a11 c11 ((p0.drop (Int.toNat (0 : Int))).take (Int.toNat v_at_s5_j2 - Int.toNat (0 : Int))) := hs11
 refine x_slice (xv := .slice a_p0 (p0).length c_p0) (lv := none) (hv := (some (Vi v_at_s5_j2))) (mv := none) (.slice a11 (((p0.drop (Int.toNat (0 : Int))).take (Int.toNat v_at_s5_j2 - Int.toNat (0 : Int)))).length c11) rfl rfl rfl rfl rfl rfl hr11 ?_
 have hg := guard_l h
 replace h := guard_r h
 obtain ⟨a13, c13, w13, hr13, he13, hn13, hm13, hw13⟩ := own_appendN tel29 29 ho9 (mem_flat 0 rfl) hs11 hg
 refine x_builtin (vs := [.slice a9 (([] : List (List UInt8))).length 0, .slice a11 (((p0.drop (Int.toNat (0 : Int))).take (Int.toNat v_at_s5_j2 - Int.toNat (0 : Int)))).length c11]) _ w13 rfl rfl rfl rfl (run_value _ _ _ _ hr13) ?_
 refine inl1 ?_
 have hst : Stp (fl [blk a9, M]) w9 (fl [blk a13, M]) w13 := Stp.upd 0 he13 rfl (fun b hb => (hn13 b hb).1)
 replace hs_p0 := hs_p0.step hst
 replace hs11 := hs11.step hst
 replace hms : MS w13 [blk a13, M] := hms.upd 0 he13 rfl hn13
 have hfr2 : FR w.heap.size [blk a13] := hfr.upd 0 rfl hev.size (fun b hb => (hn13 b hb).1)
 replace hev := hev.then he13 (fun b hb => .inr (hfr.at 0 rfl b hb))
 replace hfr := hfr2
 clear hfr2
 replace ho9 := hw13 (fl [blk a13, M]) hst.new
 clear hw13
 refine x_pure 1 [(6, .slice a13 ((([] : List (List UInt8)) ++ ((p0.drop (Int.toNat (0 : Int))).take (Int.toNat v_at_s5_j2 - Int.toNat (0 : Int))))).length c13)] _ _ _ (by kernel_rfl) ?_
 refine x_ek ?_
 refine c_norm [(0, .slice a_p0 (p0).length c_p0), (1, Vs p1), (5, Vi v_at_s5_j2), (6, .slice a13 ((([] : List (List UInt8)) ++ ((p0.drop (Int.toNat (0 : Int))).take (Int.toNat v_at_s5_j2 - Int.toNat (0 : Int))))).length c13)] ⟨rfl, rfl, rfl, rfl, trivial⟩ (fun J => ?_)
 refine c_sp ?_
 refine x_pure 2 [(39, .slice a13 ((([] : List (List UInt8)) ++ ((p0.drop (Int.toNat (0 : Int))).take (Int.toNat v_at_s5_j2 - Int.toNat (0 : Int))))).length c13), (40, Vs p1)] _ _ _ (by kernel_rfl) ?_
 refine x_buildSlice (vs := [(0, Vs p1)]) #[Vs p1] 9 rfl rfl rfl (by kernel_rfl) (fun b14 w14 hq14 hb14 he14 hz14 => ?_)
 refine inl1 ?_
 have hms0 := hms
 have hst := Stp.ext (ls := [blk a13, M]) he14
 replace hs_p0 := hs_p0.step hst
 replace ho9 := ho9.step hst he14 nn2
 replace hms := hms.ev he14
 replace hev := hev.ext he14
 have hs14 : SlR eStr w14 (fl [blk a13, M]) (Ad b14 0) 1 ([p1] : List (List UInt8)) := ro_of_box hms0 hq14 hb14 rfl rfl (cells_at (cs := [Vs p1]) (CellsOf.cons (c := [Vs p1]) rfl CellsOf.nil))
 clear hb14 hms0
 have hg := guard_l h
 replace h := guard_r h
 obtain ⟨a16, c16, w16, hr16, he16, hn16, hm16, hw16⟩ := own_appendN tel29 29 ho9 (mem_flat 0 rfl) hs14 hg
 refine x_builtin (vs := [.slice a13 ((([] : List (List UInt8)) ++ ((p0.drop (Int.toNat (0 : Int))).take (Int.toNat v_at_s5_j2 - Int.toNat (0 : Int))))).length c13, .slice (Ad b14 0) (([p1] : List (List UInt8))).length 1]) _ w16 rfl rfl rfl rfl (run_value _ _ _ _ hr16) ?_
 refine inl1 ?_
 have hst : Stp (fl [blk a13, M]) w14 (fl [blk a16, M]) w16 := Stp.upd 0 he16 rfl (fun b hb => (hn16 b hb).1)
 replace hs_p0 := hs_p0.step hst
 replace hs14 := hs14.step hst
 replace hms : MS w16 [blk a16, M] := hms.upd 0 he16 rfl hn16
 have hfr2 : FR w.heap.size [blk a16] := hfr.upd 0 rfl hev.size (fun b hb => (hn16 b hb).1)
 replace hev := hev.then he16 (fun b hb => .inr (hfr.at 0 rfl b hb))
 replace hfr := hfr2
 clear hfr2
 replace ho9 := hw16 (fl [blk a16, M]) hst.new
 clear hw16
 refine x_pure 1 [(6, .slice a16 (((([] : List (List UInt8)) ++ ((p0.drop (Int.toNat (0 : Int))).take (Int.toNat v_at_s5_j2 - Int.toNat (0 : Int)))) ++ ([p1] : List (List UInt8)))).length c16)] _ _ _ (by kernel_rfl) ?_
 refine x_ek ?_
 refine c_sp ?_
 refine x_pure 3 [(43, .slice a16 (((([] : List (List UInt8)) ++ ((p0.drop (Int.toNat (0 : Int))).take (Int.toNat v_at_s5_j2 - Int.toNat (0 : Int)))) ++ ([p1] : List (List UInt8)))).length c16), (44, .slice a_p0 (p0).length c_p0), (45, Vi v_at_s5_j2)] _ _ _ (by kernel_rfl) ?_
 have hg := guard_l h
 replace h := guard_r h
 obtain ⟨a17, c17, hr17, hs17⟩ := SlR.sliced (P := Try.prog) (Mo := []) tsl29 hs_p0 (some v_at_s5_j2) none hg
 replace hs17 : SlR eStr w16 (fl [blk a16, M]) a17 c17 ((p0.drop (Int.toNat v_at_s5_j2)).take (Int.toNat (p0.length : Int) - Int.toNat v_at_s5_j2)) := hs17
 refine x_slice (xv := .slice a_p0 (p0).length c_p0) (lv := (some (Vi v_at_s5_j2))) (hv := none) (mv := none) (.slice a17 (((p0.drop (Int.toNat v_at_s5_j2)).take (Int.toNat (p0.length : Int) - Int.toNat v_at_s5_j2))).length c17) rfl rfl rfl rfl rfl rfl hr17 ?_
 have hg := guard_l h
 replace h := guard_r h
 obtain ⟨a19, c19, w19, hr19, he19, hn19, hm19, hw19⟩ := own_appendN tel29 29 ho9 (mem_flat 0 rfl) hs17 hg
 refine x_builtin (vs := [.slice a16 (((([] : List (List UInt8)) ++ ((p0.drop (Int.toNat (0 : Int))).take (Int.toNat v_at_s5_j2 - Int.toNat (0 : Int)))) ++ ([p1] : List (List UInt8)))).length c16, .slice a17 (((p0.drop (Int.toNat v_at_s5_j2)).take (Int.toNat (p0.length : Int) - Int.toNat v_at_s5_j2))).length c17]) _ w19 rfl rfl rfl rfl (run_value _ _ _ _ hr19) ?_
 refine inl1 ?_
 have hst : Stp (fl [blk a16, M]) w16 (fl [blk a19, M]) w19 := Stp.upd 0 he19 rfl (fun b hb => (hn19 b hb).1)
 replace hs_p0 := hs_p0.step hst
 replace hs17 := hs17.step hst
 replace hms : MS w19 [blk a19, M] := hms.upd 0 he19 rfl hn19
 have hfr2 : FR w.heap.size [blk a19] := hfr.upd 0 rfl hev.size (fun b hb => (hn19 b hb).1)
 replace hev := hev.then he19 (fun b hb => .inr (hfr.at 0 rfl b hb))
 replace hfr := hfr2
 clear hfr2
 replace ho9 := hw19 (fl [blk a19, M]) hst.new
 clear hw19
 refine x_pure 1 [(4, .slice a19 ((((([] : List (List UInt8)) ++ ((p0.drop (Int.toNat (0 : Int))).take (Int.toNat v_at_s5_j2 - Int.toNat (0 : Int)))) ++ ([p1] : List (List UInt8))) ++ ((p0.drop (Int.toNat v_at_s5_j2)).take (Int.toNat (p0.length : Int) - Int.toNat v_at_s5_j2)))).length c19)] _ _ _ (by kernel_rfl) ?_
 refine x_ek ?_
 refine c_ret ?_
 refine r_ret (r_vals [.slice a19 ((((([] : List (List UInt8)) ++ ((p0.drop (Int.toNat (0 : Int))).take (Int.toNat v_at_s5_j2 - Int.toNat (0 : Int)))) ++ ([p1] : List (List UInt8))) ++ ((p0.drop (Int.toNat v_at_s5_j2)).take (Int.toNat (p0.length : Int) - Int.toNat v_at_s5_j2)))).length c19] ⟨rfl, trivial⟩ ?_)
 have hx := some_inj h
 subst hx
 have hmr : MS w19 [M] := hms.pick [some 1] _ rfl
 have hsu : ∀ x ∈ fl [M], x ∈ fl [blk a19, M] := pick_sub [some 1] _ rfl
 exact ⟨a19, c19, rfl, hev, ho9.ro hsu (pick_out hms 0 rfl [some 1] [M] rfl rfl)⟩
def r02_Repairs_J12 (p0 : List UInt8) (i_s5_l4 : Int) (d5_l8 : List (List UInt8)) (v_d_s6_l8 : Int) (t41__s41_j12 : Bool) : Option (Step ((List (List UInt8)) × Int) (List (List UInt8))) :=
(if t41__s41_j12 = true then
((r02_insert d5_l8 ((((p0.drop (Int.toNat (0 : Int))).take (Int.toNat i_s5_l4 - Int.toNat (0 : Int))) ++ (ofB ([IntKind.u8.wrap (IntKind.i64.wrap (48 + v_d_s6_l8))]))) ++ ((p0.drop (Int.toNat (IntKind.i64.wrap (i_s5_l4 + 1)))).take (Int.toNat (p0.length : Int) - Int.toNat (IntKind.i64.wrap (i_s5_l4 + 1)))))).bind fun x15 =>
some (.next (x15, IntKind.i64.wrap (v_d_s6_l8 + 1))))
else
some (.next (d5_l8, IntKind.i64.wrap (v_d_s6_l8 + 1))))

def r02_Repairs_J18 (p0 : List UInt8) (i_s5_l4 : Int) (d5_x8 : List (List UInt8)) (t56__s56_j18 : Bool) : Option (Step ((List (List UInt8)) × Int) (List (List UInt8))) :=
(if t56__s56_j18 = true then
(if 0 ≤ ((0 : Int) : Int) ∧ ((0 : Int) : Int) ≤ (i_s5_l4 : Int) ∧ (i_s5_l4 : Int) ≤ (p0.length : Int) then
((sAt p0 (IntKind.i64.wrap (i_s5_l4 + 1))).bind fun x21 =>
((sAt p0 i_s5_l4).bind fun x22 =>
(if 0 ≤ (IntKind.i64.wrap (i_s5_l4 + 2) : Int) ∧ (IntKind.i64.wrap (i_s5_l4 + 2) : Int) ≤ ((p0.length : Int) : Int) ∧ ((p0.length : Int) : Int) ≤ (p0.length : Int) then
(if ((p0.drop (Int.toNat (0 : Int))).take (Int.toNat i_s5_l4 - Int.toNat (0 : Int))).length + (ofB ([x21, x22])).length ≤ 4294967296 then
(if (((p0.drop (Int.toNat (0 : Int))).take (Int.toNat i_s5_l4 - Int.toNat (0 : Int))) ++ (ofB ([x21, x22]))).length + ((p0.drop (Int.toNat (IntKind.i64.wrap (i_s5_l4 + 2)))).take (Int.toNat (p0.length : Int) - Int.toNat (IntKind.i64.wrap (i_s5_l4 + 2)))).length ≤ 4294967296 then
((r02_Valid ((((p0.drop (Int.toNat (0 : Int))).take (Int.toNat i_s5_l4 - Int.toNat (0 : Int))) ++ (ofB ([x21, x22]))) ++ ((p0.drop (Int.toNat (IntKind.i64.wrap (i_s5_l4 + 2)))).take (Int.toNat (p0.length : Int) - Int.toNat (IntKind.i64.wrap (i_s5_l4 + 2)))))).bind fun x25 =>
(if (x25 == 0) = true then
((r02_insert d5_x8 ((((p0.drop (Int.toNat (0 : Int))).take (Int.toNat i_s5_l4 - Int.toNat (0 : Int))) ++ (ofB ([x21, x22]))) ++ ((p0.drop (Int.toNat (IntKind.i64.wrap (i_s5_l4 + 2)))).take (Int.toNat (p0.length : Int) - Int.toNat (IntKind.i64.wrap (i_s5_l4 + 2)))))).bind fun x27 =>
some (.next (x27, IntKind.i64.wrap (i_s5_l4 + 1))))
else
some (.next (d5_x8, IntKind.i64.wrap (i_s5_l4 + 1)))))
else none)
else none)
else none)))
else none)
else
some (.next (d5_x8, IntKind.i64.wrap (i_s5_l4 + 1))))

def r02_Repairs_L8 (p0 : List UInt8) (i_s5_l4 : Int) (s : (List (List UInt8)) × Int) : Option (Step ((List (List UInt8)) × Int) (List (List UInt8))) :=
match s with
| (d5_l8, v_d_s6_l8) =>
(if (decide (v_d_s6_l8 < 10)) = true then
(if 0 ≤ ((0 : Int) : Int) ∧ ((0 : Int) : Int) ≤ (i_s5_l4 : Int) ∧ (i_s5_l4 : Int) ≤ (p0.length : Int) then
(if 0 ≤ (IntKind.i64.wrap (i_s5_l4 + 1) : Int) ∧ (IntKind.i64.wrap (i_s5_l4 + 1) : Int) ≤ ((p0.length : Int) : Int) ∧ ((p0.length : Int) : Int) ≤ (p0.length : Int) then
(if ((p0.drop (Int.toNat (0 : Int))).take (Int.toNat i_s5_l4 - Int.toNat (0 : Int))).length + (ofB ([IntKind.u8.wrap (IntKind.i64.wrap (48 + v_d_s6_l8))])).length ≤ 4294967296 then
(if (((p0.drop (Int.toNat (0 : Int))).take (Int.toNat i_s5_l4 - Int.toNat (0 : Int))) ++ (ofB ([IntKind.u8.wrap (IntKind.i64.wrap (48 + v_d_s6_l8))]))).length + ((p0.drop (Int.toNat (IntKind.i64.wrap (i_s5_l4 + 1)))).take (Int.toNat (p0.length : Int) - Int.toNat (IntKind.i64.wrap (i_s5_l4 + 1)))).length ≤ 4294967296 then
(if (((((p0.drop (Int.toNat (0 : Int))).take (Int.toNat i_s5_l4 - Int.toNat (0 : Int))) ++ (ofB ([IntKind.u8.wrap (IntKind.i64.wrap (48 + v_d_s6_l8))]))) ++ ((p0.drop (Int.toNat (IntKind.i64.wrap (i_s5_l4 + 1)))).take (Int.toNat (p0.length : Int) - Int.toNat (IntKind.i64.wrap (i_s5_l4 + 1))))) != p0) = true then
((r02_Valid ((((p0.drop (Int.toNat (0 : Int))).take (Int.toNat i_s5_l4 - Int.toNat (0 : Int))) ++ (ofB ([IntKind.u8.wrap (IntKind.i64.wrap (48 + v_d_s6_l8))]))) ++ ((p0.drop (Int.toNat (IntKind.i64.wrap (i_s5_l4 + 1)))).take (Int.toNat (p0.length : Int) - Int.toNat (IntKind.i64.wrap (i_s5_l4 + 1)))))).bind fun x13 =>
r02_Repairs_J12 p0 i_s5_l4 d5_l8 v_d_s6_l8 (x13 == 0))
else
r02_Repairs_J12 p0 i_s5_l4 d5_l8 v_d_s6_l8 false)
else none)
else none)
else none)
else none)
else
some (.done d5_l8))

def r02_Repairs_L4 (p0 : List UInt8) (s : (List (List UInt8)) × Int) : Option (Step ((List (List UInt8)) × Int) (List (List UInt8))) :=
match s with
| (d5_l4, i_s5_l4) =>
(if (decide (i_s5_l4 < 12)) = true then
((loop (r02_Repairs_L8 p0 i_s5_l4) (d5_l4, 0)).bind fun d => match d with
| d5_x8 => (if (decide (i_s5_l4 < 11)) = true then
((sAt p0 i_s5_l4).bind fun x19 =>
((sAt p0 (IntKind.i64.wrap (i_s5_l4 + 1))).bind fun x20 =>
r02_Repairs_J18 p0 i_s5_l4 d5_x8 (x19 != x20)))
else
r02_Repairs_J18 p0 i_s5_l4 d5_x8 false))
else
some (.done d5_l4))

def r02_Repairs (p0 : List UInt8) : Option ((List (List UInt8)) × Int) :=
((r02_digits p0 12).bind fun x2 =>
(if (!x2) = true then
some ([], 11)
else
((loop (r02_Repairs_L4 p0) (([] : List (List UInt8)), 0)).bind fun d => match d with
| d5_x4 => some (d5_x4, 0))))

theorem r02_Repairs_w (p0 : List UInt8) (r : (List (List UInt8)) × Int) (w : World) (M : List Nat) (hms : MS w [M]) (h : r02_Repairs p0 = some r) : CallVC Try.prog 32 [Vs p0] w fun v w' => ∃ (a0' : Option Addr), ∃ (c0' : Nat), v = .tuple #[.slice a0' (r.1).length c0', Vi r.2] ∧ Ev [] w w' ∧ SlR eStr w' (fl [M]) a0' c0' r.1 := by
 refine calls_vc hmx Try.func32 (by kernel_rfl) rfl (rs := [.tmp 2, .tmp 3]) rfl (by kernel_rfl) (args := [Vs p0]) rfl ?_
 have hev : Ev [] w w := Ev.refl _ _
 have hfr : FR w.heap.size [] := FR.nil _
 refine c_sp ?_
 refine x_pure 2 [(2, .slice none 0 0), (3, Vi 0)] _ _ _ (by kernel_rfl) ?_
 refine x_ek ?_
 refine c_seq ?_
 refine c_sp ?_
 refine x_pure 1 [(9, Vs p0)] _ _ _ (by kernel_rfl) ?_
 obtain ⟨x2, hx, h⟩ := bind_some h
 have hcall := r02_digits_w p0 12 _ w hx
 refine x_call 34 #[] #[] [Vs p0, Vi 12] _ rfl rfl rfl rfl hcall ?_
 rintro v w3 ⟨rfl, he3⟩
 clear hcall hx
 refine inl1 ?_
 replace hms := hms.ev he3
 replace hev := hev.ext he3
 refine x_pure 1 [(11, .bool (!x2))] _ _ _ (by kernel_rfl) ?_
 refine x_ek ?_
 refine c_cond (!x2) rfl (fun hb => ?_) (fun hb => ?_)
 · replace h := ite_t hb h
   refine c_sp ?_
   refine x_pure 2 [(2, .slice none 0 0), (3, Vi 11)] _ _ _ (by kernel_rfl) ?_
   refine x_ek ?_
   refine c_ret ?_
   refine k_then_ret ?_
   refine r_ret (r_vals [.slice none 0 0, Vi 11] ⟨rfl, rfl, trivial⟩ ?_)
   have hx := some_inj h
   subst hx
   have hmr : MS w3 [M] := hms.pick [some 0] _ rfl
   have hsu : ∀ x ∈ fl [M], x ∈ fl [M] := pick_sub [some 0] _ rfl
   exact ⟨none, 0, rfl, hev, SlR.empty _ _ _⟩
 replace h := ite_f hb h
 refine c_skip ?_
 refine k_then ?_
 refine c_sp ?_
 refine x_pure 1 [(4, .slice none 0 0)] _ _ _ (by kernel_rfl) ?_
 refine x_ek ?_
 refine c_seq ?_
 refine c_sp ?_
 refine x_pure 1 [(5, Vi 0)] _ _ _ (by kernel_rfl) ?_
 refine x_ek ?_
 refine c_block ?_
 obtain ⟨d4, hd4, h4⟩ := bind_some h
 obtain ⟨m4, hd4⟩ := loop_some hd4
 refine c_loop (loop_rule hmx (σ := Nat × (List (List UInt8)) × Int × Option Addr × Nat) (fun s => match s with | (_, d5_l4, i_s5_l4, a5_l4, c5_l4) => [(0, Vs p0), (4, .slice a5_l4 (d5_l4).length c5_l4), (5, Vi i_s5_l4)]) (fun s w' => match s with | (m, d5_l4, i_s5_l4, a5_l4, c5_l4) => loopN (r02_Repairs_L4 p0) m (d5_l4, i_s5_l4) = some d4 ∧ Ev [] w w' ∧ MS w' [M] ∧ FR w.heap.size [] ∧ SlR eStr w' (fl [M]) a5_l4 c5_l4 d5_l4) (fun s => s.1) (m4, ([] : List (List UInt8)), 0, none, 0) ⟨rfl, rfl, rfl, trivial⟩ ⟨hd4, hev, hms, hfr, (SlR.empty _ _ _)⟩ ?_)
 rintro ⟨m4, d5_l4, i_s5_l4, a5_l4, c5_l4⟩ J wl4 ⟨hn4, hev, hms, hfr, hj5_l4⟩
 rcases m4 with _ | m4
 · exact (loopN_zero hn4).elim
 obtain ⟨t4, h, hn4⟩ := bind_some hn4
 refine c_seq ?_
 refine c_sp ?_
 refine x_pure 2 [(12, Vi i_s5_l4), (13, .bool (decide (i_s5_l4 < 12)))] _ _ _ (by kernel_rfl) ?_
 refine x_ek ?_
 refine c_norm [(0, Vs p0), (4, .slice a5_l4 (d5_l4).length c5_l4), (5, Vi i_s5_l4), (13, .bool (decide (i_s5_l4 < 12)))] ⟨rfl, rfl, rfl, rfl, trivial⟩ (fun J => ?_)
 refine c_cond (decide (i_s5_l4 < 12)) rfl (fun hb => ?_) (fun hb => ?_)
 · replace h := ite_t hb h
   refine c_skip ?_
   refine k_then ?_
   refine c_seq ?_
   refine c_block ?_
   refine c_seq ?_
   refine c_sp ?_
   refine x_pure 1 [(6, Vi 0)] _ _ _ (by kernel_rfl) ?_
   refine x_ek ?_
   refine c_block ?_
   obtain ⟨d8, hd8, h8⟩ := bind_some h
   obtain ⟨m8, hd8⟩ := loop_some hd8
   refine c_loop (loop_rule hmx (σ := Nat × (List (List UInt8)) × Int × Option Addr × Nat) (fun s => match s with | (_, d5_l8, v_d_s6_l8, a5_l8, c5_l8) => [(0, Vs p0), (4, .slice a5_l8 (d5_l8).length c5_l8), (5, Vi i_s5_l4), (6, Vi v_d_s6_l8)]) (fun s w' => match s with | (m, d5_l8, v_d_s6_l8, a5_l8, c5_l8) => loopN (r02_Repairs_L8 p0 i_s5_l4) m (d5_l8, v_d_s6_l8) = some d8 ∧ Ev [] w w' ∧ MS w' [M] ∧ FR w.heap.size [] ∧ SlR eStr w' (fl [M]) a5_l8 c5_l8 d5_l8) (fun s => s.1) (m8, d5_l4, 0, a5_l4, c5_l4) ⟨rfl, rfl, rfl, rfl, trivial⟩ ⟨hd8, hev, hms, hfr, hj5_l4⟩ ?_)
   rintro ⟨m8, d5_l8, v_d_s6_l8, a5_l8, c5_l8⟩ J wl8 ⟨hn8, hev, hms, hfr, hj5_l8⟩
   rcases m8 with _ | m8
   · exact (loopN_zero hn8).elim
   obtain ⟨t8, h, hn8⟩ := bind_some hn8
   refine c_seq ?_
   refine c_sp ?_
   refine x_pure 2 [(16, Vi v_d_s6_l8), (17, .bool (decide (v_d_s6_l8 < 10)))] _ _ _ (by kernel_rfl) ?_
   refine x_ek ?_
   refine c_norm [(0, Vs p0), (4, .slice a5_l8 (d5_l8).length c5_l8), (5, Vi i_s5_l4), (6, Vi v_d_s6_l8), (17, .bool (decide (v_d_s6_l8 < 10)))] ⟨rfl, rfl, rfl, rfl, rfl, trivial⟩ (fun J => ?_)
   refine c_cond (decide (v_d_s6_l8 < 10)) rfl (fun hb => ?_) (fun hb => ?_)
   · replace h := ite_t hb h
     refine c_skip ?_
     refine k_then ?_
     refine c_seq ?_
     refine c_block ?_
     refine c_seq ?_
     refine c_drawn [] [(0, false), (1, false), (2, false), (3, false), (4, false), (9, false), (10, false), (11, false), (12, false), (5, false), (6, false), (7, false), (8, false), (13, false), (14, false)] _ (by kernel_rfl) rfl ?_
     have hst := Stp.ext (ls := [M]) (Ev.drew wl8)
     replace hj5_l8 := hj5_l8.step hst
     replace hms := hms.ev (Ev.drew wl8)
     replace hev := hev.ext (Ev.drew wl8)
     refine x_pure 2 [(20, Vs p0), (21, Vi i_s5_l4)] _ _ _ (by kernel_rfl) ?_
     have hg := guard_l h
     replace h := guard_r h
     refine x_slice (xv := Vs p0) (lv := none) (hv := (some (Vi i_s5_l4))) (mv := none) (Vs ((p0.drop (Int.toNat (0 : Int))).take (Int.toNat i_s5_l4 - Int.toNat (0 : Int)))) rfl rfl rfl rfl rfl rfl (reads_scut tstr9 _ none (some i_s5_l4) hg) ?_
     refine x_pure 5 [(23, Vi v_d_s6_l8), (24, Vi (IntKind.i64.wrap (48 + v_d_s6_l8))), (29, Vs p0), (30, Vi i_s5_l4), (31, Vi (IntKind.i64.wrap (i_s5_l4 + 1)))] _ _ _ (by kernel_rfl) ?_
     have hg := guard_l h
     replace h := guard_r h
     refine x_slice (xv := Vs p0) (lv := (some (Vi (IntKind.i64.wrap (i_s5_l4 + 1))))) (hv := none) (mv := none) (Vs ((p0.drop (Int.toNat (IntKind.i64.wrap (i_s5_l4 + 1)))).take (Int.toNat (p0.length : Int) - Int.toNat (IntKind.i64.wrap (i_s5_l4 + 1))))) rfl rfl rfl rfl rfl rfl (reads_scut tstr9 _ (some (IntKind.i64.wrap (i_s5_l4 + 1))) none hg) ?_
     refine x_convert (.int .u8 (IntKind.u8.wrap (IntKind.i64.wrap (48 + v_d_s6_l8)))) _ rfl rfl rfl (tcv3_5 (IntKind.i64.wrap (48 + v_d_s6_l8)) _) ?_
     refine ⟨.inr (Ev.refl _ _), ?_⟩
     refine x_buildSlice (vs := [(0, .int .u8 (IntKind.u8.wrap (IntKind.i64.wrap (48 + v_d_s6_l8))))]) #[.int .u8 (IntKind.u8.wrap (IntKind.i64.wrap (48 + v_d_s6_l8)))] 5 rfl rfl rfl (by kernel_rfl) (fun b10 w10 hq10 hb10 he10 hz10 => ?_)
     refine ⟨.inr he10, ?_⟩
     have hms0 := hms
     have hst := Stp.ext (ls := [M]) he10
     replace hj5_l8 := hj5_l8.step hst
     replace hms := hms.ev he10
     replace hev := hev.ext he10
     have hs10 : SlR (eInt .u8) w10 (fl [M]) (Ad b10 0) 1 ([IntKind.u8.wrap (IntKind.i64.wrap (48 + v_d_s6_l8))]) := ro_of_box hms0 hq10 hb10 rfl rfl (cells_at (cs := [.int .u8 (IntKind.u8.wrap (IntKind.i64.wrap (48 + v_d_s6_l8)))]) (CellsOf.cons (c := [.int .u8 (IntKind.u8.wrap (IntKind.i64.wrap (48 + v_d_s6_l8)))]) rfl CellsOf.nil))
     clear hb10 hms0
     refine x_convert (xv := .slice (Ad b10 0) ([IntKind.u8.wrap (IntKind.i64.wrap (48 + v_d_s6_l8))]).length 1) (Vs (ofB ([IntKind.u8.wrap (IntKind.i64.wrap (48 + v_d_s6_l8))]))) _ rfl rfl rfl (run_ofB tuns26 tint5 tstr9 hs10) ?_
     refine ⟨.inr (Ev.refl _ _), ?_⟩
     refine x_binop (Vs (((p0.drop (Int.toNat (0 : Int))).take (Int.toNat i_s5_l4 - Int.toNat (0 : Int))) ++ (ofB ([IntKind.u8.wrap (IntKind.i64.wrap (48 + v_d_s6_l8))])))) (Vs ((p0.drop (Int.toNat (0 : Int))).take (Int.toNat i_s5_l4 - Int.toNat (0 : Int)))) (Vs (ofB ([IntKind.u8.wrap (IntKind.i64.wrap (48 + v_d_s6_l8))]))) rfl rfl rfl rfl (bin_sadd (guard_l h)) ?_
     replace h := guard_r h
     refine x_binop (Vs ((((p0.drop (Int.toNat (0 : Int))).take (Int.toNat i_s5_l4 - Int.toNat (0 : Int))) ++ (ofB ([IntKind.u8.wrap (IntKind.i64.wrap (48 + v_d_s6_l8))]))) ++ ((p0.drop (Int.toNat (IntKind.i64.wrap (i_s5_l4 + 1)))).take (Int.toNat (p0.length : Int) - Int.toNat (IntKind.i64.wrap (i_s5_l4 + 1)))))) (Vs (((p0.drop (Int.toNat (0 : Int))).take (Int.toNat i_s5_l4 - Int.toNat (0 : Int))) ++ (ofB ([IntKind.u8.wrap (IntKind.i64.wrap (48 + v_d_s6_l8))])))) (Vs ((p0.drop (Int.toNat (IntKind.i64.wrap (i_s5_l4 + 1)))).take (Int.toNat (p0.length : Int) - Int.toNat (IntKind.i64.wrap (i_s5_l4 + 1))))) rfl rfl rfl rfl (bin_sadd (guard_l h)) ?_
     replace h := guard_r h
     refine x_pure 1 [(7, Vs ((((p0.drop (Int.toNat (0 : Int))).take (Int.toNat i_s5_l4 - Int.toNat (0 : Int))) ++ (ofB ([IntKind.u8.wrap (IntKind.i64.wrap (48 + v_d_s6_l8))]))) ++ ((p0.drop (Int.toNat (IntKind.i64.wrap (i_s5_l4 + 1)))).take (Int.toNat (p0.length : Int) - Int.toNat (IntKind.i64.wrap (i_s5_l4 + 1))))))] _ _ _ (by kernel_rfl) ?_
     refine x_ek ?_
     refine c_norm [(0, Vs p0), (4, .slice a5_l8 (d5_l8).length c5_l8), (5, Vi i_s5_l4), (6, Vi v_d_s6_l8), (7, Vs ((((p0.drop (Int.toNat (0 : Int))).take (Int.toNat i_s5_l4 - Int.toNat (0 : Int))) ++ (ofB ([IntKind.u8.wrap (IntKind.i64.wrap (48 + v_d_s6_l8))]))) ++ ((p0.drop (Int.toNat (IntKind.i64.wrap (i_s5_l4 + 1)))).take (Int.toNat (p0.length : Int) - Int.toNat (IntKind.i64.wrap (i_s5_l4 + 1))))))] ⟨rfl, rfl, rfl, rfl, rfl, trivial⟩ (fun J => ?_)
     refine c_join (σ := Bool) (fun s => match s with | t41__s41_j12 => [(0, Vs p0), (4, .slice a5_l8 (d5_l8).length c5_l8), (5, Vi i_s5_l4), (6, Vi v_d_s6_l8), (7, Vs ((((p0.drop (Int.toNat (0 : Int))).take (Int.toNat i_s5_l4 - Int.toNat (0 : Int))) ++ (ofB ([IntKind.u8.wrap (IntKind.i64.wrap (48 + v_d_s6_l8))]))) ++ ((p0.drop (Int.toNat (IntKind.i64.wrap (i_s5_l4 + 1)))).take (Int.toNat (p0.length : Int) - Int.toNat (IntKind.i64.wrap (i_s5_l4 + 1)))))), (41, .bool t41__s41_j12)]) (fun s w' => match s with | t41__s41_j12 => r02_Repairs_J12 p0 i_s5_l4 d5_l8 v_d_s6_l8 t41__s41_j12 = some t8 ∧ Ev [] w w' ∧ MS w' [M] ∧ FR w.heap.size [] ∧ SlR eStr w' (fl [M]) a5_l8 c5_l8 d5_l8) ?_ ?_
     · refine c_plain ?_
       refine x_pure 2 [(34, Vs ((((p0.drop (Int.toNat (0 : Int))).take (Int.toNat i_s5_l4 - Int.toNat (0 : Int))) ++ (ofB ([IntKind.u8.wrap (IntKind.i64.wrap (48 + v_d_s6_l8))]))) ++ ((p0.drop (Int.toNat (IntKind.i64.wrap (i_s5_l4 + 1)))).take (Int.toNat (p0.length : Int) - Int.toNat (IntKind.i64.wrap (i_s5_l4 + 1)))))), (35, Vs p0)] _ _ _ (by kernel_rfl) ?_
       refine x_binop (.bool (((((p0.drop (Int.toNat (0 : Int))).take (Int.toNat i_s5_l4 - Int.toNat (0 : Int))) ++ (ofB ([IntKind.u8.wrap (IntKind.i64.wrap (48 + v_d_s6_l8))]))) ++ ((p0.drop (Int.toNat (IntKind.i64.wrap (i_s5_l4 + 1)))).take (Int.toNat (p0.length : Int) - Int.toNat (IntKind.i64.wrap (i_s5_l4 + 1))))) != p0)) (Vs ((((p0.drop (Int.toNat (0 : Int))).take (Int.toNat i_s5_l4 - Int.toNat (0 : Int))) ++ (ofB ([IntKind.u8.wrap (IntKind.i64.wrap (48 + v_d_s6_l8))]))) ++ ((p0.drop (Int.toNat (IntKind.i64.wrap (i_s5_l4 + 1)))).take (Int.toNat (p0.length : Int) - Int.toNat (IntKind.i64.wrap (i_s5_l4 + 1)))))) (Vs p0) rfl rfl rfl rfl (bin_sne) ?_
       refine x_pure 1 [(37, .bool (((((p0.drop (Int.toNat (0 : Int))).take (Int.toNat i_s5_l4 - Int.toNat (0 : Int))) ++ (ofB ([IntKind.u8.wrap (IntKind.i64.wrap (48 + v_d_s6_l8))]))) ++ ((p0.drop (Int.toNat (IntKind.i64.wrap (i_s5_l4 + 1)))).take (Int.toNat (p0.length : Int) - Int.toNat (IntKind.i64.wrap (i_s5_l4 + 1))))) != p0))] _ _ _ (by kernel_rfl) ?_
       refine x_split 37 (((((p0.drop (Int.toNat (0 : Int))).take (Int.toNat i_s5_l4 - Int.toNat (0 : Int))) ++ (ofB ([IntKind.u8.wrap (IntKind.i64.wrap (48 + v_d_s6_l8))]))) ++ ((p0.drop (Int.toNat (IntKind.i64.wrap (i_s5_l4 + 1)))).take (Int.toNat (p0.length : Int) - Int.toNat (IntKind.i64.wrap (i_s5_l4 + 1))))) != p0) rfl (fun hb => ?_) (fun hb => ?_)
       · replace h := ite_t hb h
         refine x_pure 1 [(38, Vs ((((p0.drop (Int.toNat (0 : Int))).take (Int.toNat i_s5_l4 - Int.toNat (0 : Int))) ++ (ofB ([IntKind.u8.wrap (IntKind.i64.wrap (48 + v_d_s6_l8))]))) ++ ((p0.drop (Int.toNat (IntKind.i64.wrap (i_s5_l4 + 1)))).take (Int.toNat (p0.length : Int) - Int.toNat (IntKind.i64.wrap (i_s5_l4 + 1))))))] _ _ _ (by kernel_rfl) ?_
         obtain ⟨x13, hx, h⟩ := bind_some h
         have hcall := r02_Valid_w ((((p0.drop (Int.toNat (0 : Int))).take (Int.toNat i_s5_l4 - Int.toNat (0 : Int))) ++ (ofB ([IntKind.u8.wrap (IntKind.i64.wrap (48 + v_d_s6_l8))]))) ++ ((p0.drop (Int.toNat (IntKind.i64.wrap (i_s5_l4 + 1)))).take (Int.toNat (p0.length : Int) - Int.toNat (IntKind.i64.wrap (i_s5_l4 + 1))))) _ w10 hx
         refine x_call 29 #[] #[] [Vs ((((p0.drop (Int.toNat (0 : Int))).take (Int.toNat i_s5_l4 - Int.toNat (0 : Int))) ++ (ofB ([IntKind.u8.wrap (IntKind.i64.wrap (48 + v_d_s6_l8))]))) ++ ((p0.drop (Int.toNat (IntKind.i64.wrap (i_s5_l4 + 1)))).take (Int.toNat (p0.length : Int) - Int.toNat (IntKind.i64.wrap (i_s5_l4 + 1)))))] _ rfl rfl rfl rfl hcall ?_
         rintro v w14 ⟨rfl, he14⟩
         clear hcall hx
         refine inl1 ?_
         have hst := Stp.ext (ls := [M]) he14
         replace hj5_l8 := hj5_l8.step hst
         replace hms := hms.ev he14
         replace hev := hev.ext he14
         refine x_pure 2 [(40, .bool (x13 == 0)), (41, .bool (x13 == 0))] _ _ _ (by kernel_rfl) ?_
         refine x_end rfl ?_
         exact k_then ⟨x13 == 0, ⟨rfl, rfl, rfl, rfl, rfl, rfl, trivial⟩, h, hev, hms, hfr, hj5_l8⟩
       replace h := ite_f hb h
       refine x_pure 4 [(38, undef), (39, undef), (40, undef), (41, .bool false)] _ _ _ (by kernel_rfl) ?_
       refine x_end rfl ?_
       exact k_then ⟨false, ⟨rfl, rfl, rfl, rfl, rfl, rfl, trivial⟩, h, hev, hms, hfr, hj5_l8⟩
     rintro t41__s41_j12 J wj12 ⟨h, hev, hms, hfr, hj5_l8⟩
     refine c_cond t41__s41_j12 rfl (fun hb => ?_) (fun hb => ?_)
     · replace h := ite_t hb h
       refine c_plain ?_
       refine x_pure 2 [(42, .slice a5_l8 (d5_l8).length c5_l8), (43, Vs ((((p0.drop (Int.toNat (0 : Int))).take (Int.toNat i_s5_l4 - Int.toNat (0 : Int))) ++ (ofB ([IntKind.u8.wrap (IntKind.i64.wrap (48 + v_d_s6_l8))]))) ++ ((p0.drop (Int.toNat (IntKind.i64.wrap (i_s5_l4 + 1)))).take (Int.toNat (p0.length : Int) - Int.toNat (IntKind.i64.wrap (i_s5_l4 + 1))))))] _ _ _ (by kernel_rfl) ?_
       obtain ⟨x15, hx, h⟩ := bind_some h
       have hpk : MS wj12 ([] ++ [M]) := hms.pick [some 0] _ rfl
       have hsb0 : ∀ x ∈ fl ([] ++ [M]), x ∈ fl [M] := pick_sub [some 0] _ rfl
       have hsb : ∀ x ∈ fl ([] ++ [(fl [M])]), x ∈ fl [M] := fun x hx => hsb0 x (fl_unfold x hx)
       have hcall := r02_insert_w a5_l8 c5_l8 d5_l8 ((((p0.drop (Int.toNat (0 : Int))).take (Int.toNat i_s5_l4 - Int.toNat (0 : Int))) ++ (ofB ([IntKind.u8.wrap (IntKind.i64.wrap (48 + v_d_s6_l8))]))) ++ ((p0.drop (Int.toNat (IntKind.i64.wrap (i_s5_l4 + 1)))).take (Int.toNat (p0.length : Int) - Int.toNat (IntKind.i64.wrap (i_s5_l4 + 1))))) _ wj12 (fl [M]) (MS.fold (P := []) hpk) (hj5_l8.sub hsb) hx
       refine x_call 39 #[] #[] [.slice a5_l8 (d5_l8).length c5_l8, Vs ((((p0.drop (Int.toNat (0 : Int))).take (Int.toNat i_s5_l4 - Int.toNat (0 : Int))) ++ (ofB ([IntKind.u8.wrap (IntKind.i64.wrap (48 + v_d_s6_l8))]))) ++ ((p0.drop (Int.toNat (IntKind.i64.wrap (i_s5_l4 + 1)))).take (Int.toNat (p0.length : Int) - Int.toNat (IntKind.i64.wrap (i_s5_l4 + 1)))))] _ rfl rfl rfl rfl hcall ?_
       rintro v w16 ⟨a0_16, c0_16, rfl, he16, hf16_1⟩
       clear hcall hx
       refine inl1 ?_
       have hst := Stp.ext (ls := [M]) he16
       replace hj5_l8 := hj5_l8.step hst
       replace hms := hms.ev he16
       replace hev := hev.ext he16
       have hsp : ∀ x ∈ fl [M], x ∈ fl ([] ++ [(fl [M])]) := fun x hx => fl_fold (P := []) x (pick_sup [some 0] [M] rfl rfl x hx)
       replace hf16_1 := hf16_1.sub hsp
       clear hpk hsb hsb0
       refine x_pure 1 [(4, .slice a0_16 (x15).length c0_16)] _ _ _ (by kernel_rfl) ?_
       refine x_end rfl ?_
       refine k_block ?_
       refine k_then ?_
       refine c_norm [(0, Vs p0), (4, .slice a0_16 (x15).length c0_16), (5, Vi i_s5_l4), (6, Vi v_d_s6_l8)] ⟨rfl, rfl, rfl, rfl, trivial⟩ (fun J => ?_)
       refine c_plain ?_
       refine x_pure 3 [(18, Vi v_d_s6_l8), (19, Vi (IntKind.i64.wrap (v_d_s6_l8 + 1))), (6, Vi (IntKind.i64.wrap (v_d_s6_l8 + 1)))] _ _ _ (by kernel_rfl) ?_
       refine x_end rfl ?_
       have hx := some_inj h
       subst hx
       exact k_then ⟨(m8, x15, IntKind.i64.wrap (v_d_s6_l8 + 1), a0_16, c0_16), ⟨rfl, rfl, rfl, rfl, trivial⟩, ⟨hn8, hev, hms, hfr, hf16_1⟩, Nat.lt_succ_self _⟩
     replace h := ite_f hb h
     refine c_skip ?_
     refine k_block ?_
     refine k_then ?_
     refine c_norm [(0, Vs p0), (4, .slice a5_l8 (d5_l8).length c5_l8), (5, Vi i_s5_l4), (6, Vi v_d_s6_l8)] ⟨rfl, rfl, rfl, rfl, trivial⟩ (fun J => ?_)
     refine c_plain ?_
     refine x_pure 3 [(18, Vi v_d_s6_l8), (19, Vi (IntKind.i64.wrap (v_d_s6_l8 + 1))), (6, Vi (IntKind.i64.wrap (v_d_s6_l8 + 1)))] _ _ _ (by kernel_rfl) ?_
     refine x_end rfl ?_
     have hx := some_inj h
     subst hx
     exact k_then ⟨(m8, d5_l8, IntKind.i64.wrap (v_d_s6_l8 + 1), a5_l8, c5_l8), ⟨rfl, rfl, rfl, rfl, trivial⟩, ⟨hn8, hev, hms, hfr, hj5_l8⟩, Nat.lt_succ_self _⟩
   replace h := ite_f hb h
   refine c_exit ?_
   refine k_then_exit ?_
   have hx := some_inj h
   subst hx
   have hy := some_inj hn8
   subst hy
   replace h := h8
   refine k_then_exit ?_
   refine k_block_in ?_
   refine k_then ?_
   refine c_norm [(0, Vs p0), (4, .slice a5_l8 (d5_l8).length c5_l8), (5, Vi i_s5_l4)] ⟨rfl, rfl, rfl, trivial⟩ (fun J => ?_)
   refine c_join (σ := Bool) (fun s => match s with | t56__s56_j18 => [(0, Vs p0), (4, .slice a5_l8 (d5_l8).length c5_l8), (5, Vi i_s5_l4), (56, .bool t56__s56_j18)]) (fun s w' => match s with | t56__s56_j18 => r02_Repairs_J18 p0 i_s5_l4 d5_l8 t56__s56_j18 = some t4 ∧ Ev [] w w' ∧ MS w' [M] ∧ FR w.heap.size [] ∧ SlR eStr w' (fl [M]) a5_l8 c5_l8 d5_l8) ?_ ?_
   · refine c_drawn [] [(0, false), (1, false), (2, false), (3, false), (4, false), (5, false), (6, false), (7, false), (8, false), (9, false), (10, false), (11, false)] _ (by kernel_rfl) rfl ?_
     have hst := Stp.ext (ls := [M]) (Ev.drew wl8)
     replace hj5_l8 := hj5_l8.step hst
     replace hms := hms.ev (Ev.drew wl8)
     replace hev := hev.ext (Ev.drew wl8)
     refine x_pure 3 [(45, Vi i_s5_l4), (46, .bool (decide (i_s5_l4 < 11))), (47, .bool (decide (i_s5_l4 < 11)))] _ _ _ (by kernel_rfl) ?_
     refine x_split 47 (decide (i_s5_l4 < 11)) rfl (fun hb => ?_) (fun hb => ?_)
     · replace h := ite_t hb h
       refine x_pure 2 [(48, Vs p0), (49, Vi i_s5_l4)] _ _ _ (by kernel_rfl) ?_
       obtain ⟨x19, hx19, h⟩ := bind_some h
       refine x_index (xv := Vs p0) (yv := Vi i_s5_l4) (.int .u8 x19) rfl rfl rfl rfl (reads_sindex tstr9 hx19) ?_
       refine x_pure 3 [(51, Vs p0), (52, Vi i_s5_l4), (53, Vi (IntKind.i64.wrap (i_s5_l4 + 1)))] _ _ _ (by kernel_rfl) ?_
       obtain ⟨x20, hx20, h⟩ := bind_some h
       refine x_index (xv := Vs p0) (yv := Vi (IntKind.i64.wrap (i_s5_l4 + 1))) (.int .u8 x20) rfl rfl rfl rfl (reads_sindex tstr9 hx20) ?_
       refine x_pure 2 [(55, .bool (x19 != x20)), (56, .bool (x19 != x20))] _ _ _ (by kernel_rfl) ?_
       refine x_end rfl ?_
       exact k_then ⟨x19 != x20, ⟨rfl, rfl, rfl, rfl, trivial⟩, h, hev, hms, hfr, hj5_l8⟩
     replace h := ite_f hb h
     refine x_pure 9 [(48, undef), (49, undef), (50, undef), (51, undef), (52, undef), (53, undef), (54, undef), (55, undef), (56, .bool false)] _ _ _ (by kernel_rfl) ?_
     refine x_end rfl ?_
     exact k_then ⟨false, ⟨rfl, rfl, rfl, rfl, trivial⟩, h, hev, hms, hfr, hj5_l8⟩
   rintro t56__s56_j18 J wj18 ⟨h, hev, hms, hfr, hj5_l8⟩
   refine c_cond t56__s56_j18 rfl (fun hb => ?_) (fun hb => ?_)
   · replace h := ite_t hb h
     refine c_seq ?_
     refine c_drawn [] [(0, false), (1, false), (2, false), (3, false), (4, false), (5, false), (6, false), (7, false), (8, false), (9, false), (13, false), (14, false), (15, false), (16, false), (10, false), (11, false), (12, false), (17, false), (18, false)] _ (by kernel_rfl) rfl ?_
     have hst := Stp.ext (ls := [M]) (Ev.drew wj18)
     replace hj5_l8 := hj5_l8.step hst
     replace hms := hms.ev (Ev.drew wj18)
     replace hev := hev.ext (Ev.drew wj18)
     refine x_pure 2 [(57, Vs p0), (58, Vi i_s5_l4)] _ _ _ (by kernel_rfl) ?_
     have hg := guard_l h
     replace h := guard_r h
     refine x_slice (xv := Vs p0) (lv := none) (hv := (some (Vi i_s5_l4))) (mv := none) (Vs ((p0.drop (Int.toNat (0 : Int))).take (Int.toNat i_s5_l4 - Int.toNat (0 : Int)))) rfl rfl rfl rfl rfl rfl (reads_scut tstr9 _ none (some i_s5_l4) hg) ?_
     refine x_pure 3 [(60, Vs p0), (61, Vi i_s5_l4), (62, Vi (IntKind.i64.wrap (i_s5_l4 + 1)))] _ _ _ (by kernel_rfl) ?_
     obtain ⟨x21, hx21, h⟩ := bind_some h
     refine x_index (xv := Vs p0) (yv := Vi (IntKind.i64.wrap (i_s5_l4 + 1))) (.int .u8 x21) rfl rfl rfl rfl (reads_sindex tstr9 hx21) ?_
     refine x_pure 2 [(64, Vs p0), (65, Vi i_s5_l4)] _ _ _ (by kernel_rfl) ?_
     obtain ⟨x22, hx22, h⟩ := bind_some h
     refine x_index (xv := Vs p0) (yv := Vi i_s5_l4) (.int .u8 x22) rfl rfl rfl rfl (reads_sindex tstr9 hx22) ?_
     refine x_pure 3 [(70, Vs p0), (71, Vi i_s5_l4), (72, Vi (IntKind.i64.wrap (i_s5_l4 + 2)))] _ _ _ (by kernel_rfl) ?_
     have hg := guard_l h
     replace h := guard_r h
     refine x_slice (xv := Vs p0) (lv := (some (Vi (IntKind.i64.wrap (i_s5_l4 + 2))))) (hv := none) (mv := none) (Vs ((p0.drop (Int.toNat (IntKind.i64.wrap (i_s5_l4 + 2)))).take (Int.toNat (p0.length : Int) - Int.toNat (IntKind.i64.wrap (i_s5_l4 + 2))))) rfl rfl rfl rfl rfl rfl (reads_scut tstr9 _ (some (IntKind.i64.wrap (i_s5_l4 + 2))) none hg) ?_
     refine x_buildSlice (vs := [(0, .int .u8 x21), (1, .int .u8 x22)]) #[.int .u8 x21, .int .u8 x22] 5 rfl rfl rfl (by kernel_rfl) (fun b23 w23 hq23 hb23 he23 hz23 => ?_)
     refine ⟨.inr he23, ?_⟩
     have hms0 := hms
     have hst := Stp.ext (ls := [M]) he23
     replace hj5_l8 := hj5_l8.step hst
     replace hms := hms.ev he23
     replace hev := hev.ext he23
     have hs23 : SlR (eInt .u8) w23 (fl [M]) (Ad b23 0) 2 ([x21, x22]) := ro_of_box hms0 hq23 hb23 rfl rfl (cells_at (cs := [.int .u8 x21, .int .u8 x22]) (CellsOf.cons (c := [.int .u8 x21]) rfl (CellsOf.cons (c := [.int .u8 x22]) rfl CellsOf.nil)))
     clear hb23 hms0
     refine x_convert (xv := .slice (Ad b23 0) ([x21, x22]).length 2) (Vs (ofB ([x21, x22]))) _ rfl rfl rfl (run_ofB tuns26 tint5 tstr9 hs23) ?_
     refine ⟨.inr (Ev.refl _ _), ?_⟩
     refine x_binop (Vs (((p0.drop (Int.toNat (0 : Int))).take (Int.toNat i_s5_l4 - Int.toNat (0 : Int))) ++ (ofB ([x21, x22])))) (Vs ((p0.drop (Int.toNat (0 : Int))).take (Int.toNat i_s5_l4 - Int.toNat (0 : Int)))) (Vs (ofB ([x21, x22]))) rfl rfl rfl rfl (bin_sadd (guard_l h)) ?_
     replace h := guard_r h
     refine x_binop (Vs ((((p0.drop (Int.toNat (0 : Int))).take (Int.toNat i_s5_l4 - Int.toNat (0 : Int))) ++ (ofB ([x21, x22]))) ++ ((p0.drop (Int.toNat (IntKind.i64.wrap (i_s5_l4 + 2)))).take (Int.toNat (p0.length : Int) - Int.toNat (IntKind.i64.wrap (i_s5_l4 + 2)))))) (Vs (((p0.drop (Int.toNat (0 : Int))).take (Int.toNat i_s5_l4 - Int.toNat (0 : Int))) ++ (ofB ([x21, x22])))) (Vs ((p0.drop (Int.toNat (IntKind.i64.wrap (i_s5_l4 + 2)))).take (Int.toNat (p0.length : Int) - Int.toNat (IntKind.i64.wrap (i_s5_l4 + 2))))) rfl rfl rfl rfl (bin_sadd (guard_l h)) ?_
     replace h := guard_r h
     refine x_pure 1 [(8, Vs ((((p0.drop (Int.toNat (0 : Int))).take (Int.toNat i_s5_l4 - Int.toNat (0 : Int))) ++ (ofB ([x21, x22]))) ++ ((p0.drop (Int.toNat (IntKind.i64.wrap (i_s5_l4 + 2)))).take (Int.toNat (p0.length : Int) - Int.toNat (IntKind.i64.wrap (i_s5_l4 + 2))))))] _ _ _ (by kernel_rfl) ?_
     refine x_ek ?_
     refine c_norm [(0, Vs p0), (4, .slice a5_l8 (d5_l8).length c5_l8), (5, Vi i_s5_l4), (8, Vs ((((p0.drop (Int.toNat (0 : Int))).take (Int.toNat i_s5_l4 - Int.toNat (0 : Int))) ++ (ofB ([x21, x22]))) ++ ((p0.drop (Int.toNat (IntKind.i64.wrap (i_s5_l4 + 2)))).take (Int.toNat (p0.length : Int) - Int.toNat (IntKind.i64.wrap (i_s5_l4 + 2))))))] ⟨rfl, rfl, rfl, rfl, trivial⟩ (fun J => ?_)
     refine c_sp ?_
     refine x_pure 1 [(75, Vs ((((p0.drop (Int.toNat (0 : Int))).take (Int.toNat i_s5_l4 - Int.toNat (0 : Int))) ++ (ofB ([x21, x22]))) ++ ((p0.drop (Int.toNat (IntKind.i64.wrap (i_s5_l4 + 2)))).take (Int.toNat (p0.length : Int) - Int.toNat (IntKind.i64.wrap (i_s5_l4 + 2))))))] _ _ _ (by kernel_rfl) ?_
     obtain ⟨x25, hx, h⟩ := bind_some h
     have hcall := r02_Valid_w ((((p0.drop (Int.toNat (0 : Int))).take (Int.toNat i_s5_l4 - Int.toNat (0 : Int))) ++ (ofB ([x21, x22]))) ++ ((p0.drop (Int.toNat (IntKind.i64.wrap (i_s5_l4 + 2)))).take (Int.toNat (p0.length : Int) - Int.toNat (IntKind.i64.wrap (i_s5_l4 + 2))))) _ w23 hx
     refine x_call 29 #[] #[] [Vs ((((p0.drop (Int.toNat (0 : Int))).take (Int.toNat i_s5_l4 - Int.toNat (0 : Int))) ++ (ofB ([x21, x22]))) ++ ((p0.drop (Int.toNat (IntKind.i64.wrap (i_s5_l4 + 2)))).take (Int.toNat (p0.length : Int) - Int.toNat (IntKind.i64.wrap (i_s5_l4 + 2)))))] _ rfl rfl rfl rfl hcall ?_
     rintro v w26 ⟨rfl, he26⟩
     clear hcall hx
     refine inl1 ?_
     have hst := Stp.ext (ls := [M]) he26
     replace hj5_l8 := hj5_l8.step hst
     replace hms := hms.ev he26
     replace hev := hev.ext he26
     refine x_pure 1 [(77, .bool (x25 == 0))] _ _ _ (by kernel_rfl) ?_
     refine x_ek ?_
     refine c_cond (x25 == 0) rfl (fun hb => ?_) (fun hb => ?_)
     · replace h := ite_t hb h
       refine c_plain ?_
       refine x_pure 2 [(78, .slice a5_l8 (d5_l8).length c5_l8), (79, Vs ((((p0.drop (Int.toNat (0 : Int))).take (Int.toNat i_s5_l4 - Int.toNat (0 : Int))) ++ (ofB ([x21, x22]))) ++ ((p0.drop (Int.toNat (IntKind.i64.wrap (i_s5_l4 + 2)))).take (Int.toNat (p0.length : Int) - Int.toNat (IntKind.i64.wrap (i_s5_l4 + 2))))))] _ _ _ (by kernel_rfl) ?_
       obtain ⟨x27, hx, h⟩ := bind_some h
       have hpk : MS w26 ([] ++ [M]) := hms.pick [some 0] _ rfl
       have hsb0 : ∀ x ∈ fl ([] ++ [M]), x ∈ fl [M] := pick_sub [some 0] _ rfl
       have hsb : ∀ x ∈ fl ([] ++ [(fl [M])]), x ∈ fl [M] := fun x hx => hsb0 x (fl_unfold x hx)
       have hcall := r02_insert_w a5_l8 c5_l8 d5_l8 ((((p0.drop (Int.toNat (0 : Int))).take (Int.toNat i_s5_l4 - Int.toNat (0 : Int))) ++ (ofB ([x21, x22]))) ++ ((p0.drop (Int.toNat (IntKind.i64.wrap (i_s5_l4 + 2)))).take (Int.toNat (p0.length : Int) - Int.toNat (IntKind.i64.wrap (i_s5_l4 + 2))))) _ w26 (fl [M]) (MS.fold (P := []) hpk) (hj5_l8.sub hsb) hx
       refine x_call 39 #[] #[] [.slice a5_l8 (d5_l8).length c5_l8, Vs ((((p0.drop (Int.toNat (0 : Int))).take (Int.toNat i_s5_l4 - Int.toNat (0 : Int))) ++ (ofB ([x21, x22]))) ++ ((p0.drop (Int.toNat (IntKind.i64.wrap (i_s5_l4 + 2)))).take (Int.toNat (p0.length : Int) - Int.toNat (IntKind.i64.wrap (i_s5_l4 + 2)))))] _ rfl rfl rfl rfl hcall ?_
       rintro v w28 ⟨a0_28, c0_28, rfl, he28, hf28_1⟩
       clear hcall hx
       refine inl1 ?_
       have hst := Stp.ext (ls := [M]) he28
       replace hj5_l8 := hj5_l8.step hst
       replace hms := hms.ev he28
       replace hev := hev.ext he28
       have hsp : ∀ x ∈ fl [M], x ∈ fl ([] ++ [(fl [M])]) := fun x hx => fl_fold (P := []) x (pick_sup [some 0] [M] rfl rfl x hx)
       replace hf28_1 := hf28_1.sub hsp
       clear hpk hsb hsb0
       refine x_pure 1 [(4, .slice a0_28 (x27).length c0_28)] _ _ _ (by kernel_rfl) ?_
       refine x_end rfl ?_
       refine k_block ?_
       refine k_then ?_
       refine c_plain ?_
       refine x_pure 3 [(14, Vi i_s5_l4), (15, Vi (IntKind.i64.wrap (i_s5_l4 + 1))), (5, Vi (IntKind.i64.wrap (i_s5_l4 + 1)))] _ _ _ (by kernel_rfl) ?_
       refine x_end rfl ?_
       have hx := some_inj h
       subst hx
       exact k_then ⟨(m4, x27, IntKind.i64.wrap (i_s5_l4 + 1), a0_28, c0_28), ⟨rfl, rfl, rfl, trivial⟩, ⟨hn4, hev, hms, hfr, hf28_1⟩, Nat.lt_succ_self _⟩
     replace h := ite_f hb h
     refine c_skip ?_
     refine k_block ?_
     refine k_then ?_
     refine c_plain ?_
     refine x_pure 3 [(14, Vi i_s5_l4), (15, Vi (IntKind.i64.wrap (i_s5_l4 + 1))), (5, Vi (IntKind.i64.wrap (i_s5_l4 + 1)))] _ _ _ (by kernel_rfl) ?_
     refine x_end rfl ?_
     have hx := some_inj h
     subst hx
     exact k_then ⟨(m4, d5_l8, IntKind.i64.wrap (i_s5_l4 + 1), a5_l8, c5_l8), ⟨rfl, rfl, rfl, trivial⟩, ⟨hn4, hev, hms, hfr, hj5_l8⟩, Nat.lt_succ_self _⟩
   replace h := ite_f hb h
   refine c_skip ?_
   refine k_block ?_
   refine k_then ?_
   refine c_norm [(0, Vs p0), (4, .slice a5_l8 (d5_l8).length c5_l8), (5, Vi i_s5_l4)] ⟨rfl, rfl, rfl, trivial⟩ (fun J => ?_)
   refine c_plain ?_
   refine x_pure 3 [(14, Vi i_s5_l4), (15, Vi (IntKind.i64.wrap (i_s5_l4 + 1))), (5, Vi (IntKind.i64.wrap (i_s5_l4 + 1)))] _ _ _ (by kernel_rfl) ?_
   refine x_end rfl ?_
   have hx := some_inj h
   subst hx
   exact k_then ⟨(m4, d5_l8, IntKind.i64.wrap (i_s5_l4 + 1), a5_l8, c5_l8), ⟨rfl, rfl, rfl, trivial⟩, ⟨hn4, hev, hms, hfr, hj5_l8⟩, Nat.lt_succ_self _⟩
 replace h := ite_f hb h
 refine c_exit ?_
 refine k_then_exit ?_
 have hx := some_inj h
 subst hx
 have hy := some_inj hn4
 subst hy
 replace h := h4
 refine k_then_exit ?_
 refine k_block_in ?_
 refine k_then ?_
 refine c_norm [(4, .slice a5_l4 (d5_l4).length c5_l4)] ⟨rfl, trivial⟩ (fun J => ?_)
 refine c_sp ?_
 refine x_pure 3 [(81, .slice a5_l4 (d5_l4).length c5_l4), (2, .slice a5_l4 (d5_l4).length c5_l4), (3, Vi 0)] _ _ _ (by kernel_rfl) ?_
 refine x_ek ?_
 refine c_ret ?_
 refine r_ret (r_vals [.slice a5_l4 (d5_l4).length c5_l4, Vi 0] ⟨rfl, rfl, trivial⟩ ?_)
 have hx := some_inj h
 subst hx
 have hmr : MS wl4 [M] := hms.pick [some 0] _ rfl
 have hsu : ∀ x ∈ fl [M], x ∈ fl [M] := pick_sub [some 0] _ rfl
 exact ⟨a5_l4, c5_l4, rfl, hev, hj5_l4.sub hsu⟩
end Go.Proofs.Yteimkmjnjnaifaa
