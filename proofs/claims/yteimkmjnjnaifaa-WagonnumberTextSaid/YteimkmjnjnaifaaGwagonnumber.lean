/- Walks, printed by program: each function returns what the partial function of the same name returns. Conditions: those of each theorem. -/
import Derived.Test.YteimkmjnjnaifaaGT
set_option linter.unusedVariables false
set_option linter.unusedSimpArgs false
set_option maxRecDepth 4000
namespace Go.Proofs.Yteimkmjnjnaifaa
open Go Go.V Go.Proofs
def wagonnumber_digits_L2 (p0 : List UInt8) (s : Int) : Option (Step Int (Unit ⊕ Unit)) :=
match s with
| i_s5_l2 =>
(if (decide (i_s5_l2 < (p0.length : Int))) = true then
((sAt p0 i_s5_l2).bind fun x4 =>
(if (decide (x4 < 48)) = true then
some (.done (.inl ()))
else
((sAt p0 i_s5_l2).bind fun x5 =>
(if (decide (x5 > 57)) = true then
some (.done (.inl ()))
else
some (.next (IntKind.i64.wrap (i_s5_l2 + 1)))))))
else
some (.done (.inr ())))

def wagonnumber_digits (p0 : List UInt8) (p1 : Int) : Option Bool :=
((loop (wagonnumber_digits_L2 p0) 0).bind fun d => match d with
| (.inl _) => some false
| (.inr _) => some ((p0.length : Int) == p1))

theorem wagonnumber_digits_w (p0 : List UInt8) (p1 : Int) (r : Bool) (w : World) (h : wagonnumber_digits p0 p1 = some r) : CallVC Try.prog 22 [Vs p0, Vi p1] w fun v w' => v = .bool r ∧ Ev [] w w' := by
 refine calls_vc hmx Try.func22 (by kernel_rfl) rfl (rs := [.tmp 4]) rfl (by kernel_rfl) (args := [Vs p0, Vi p1]) rfl ?_
 have hev : Ev [] w w := Ev.refl _ _
 have hms : MS w [[]] := ⟨List.pairwise_singleton _ _, fun l hl b hb => by simp only [List.mem_singleton] at hl; subst hl; cases hb⟩
 have hfr : FR w.heap.size [] := FR.nil _
 refine c_sp ?_
 refine x_pure 1 [(4, .bool false)] _ _ _ (by kernel_rfl) ?_
 refine x_ek ?_
 refine c_seq ?_
 refine c_sp ?_
 refine x_pure 1 [(5, Vi 0)] _ _ _ (by kernel_rfl) ?_
 refine x_ek ?_
 refine c_block ?_
 obtain ⟨d2, hd2, h2⟩ := bind_some h
 obtain ⟨m2, hd2⟩ := loop_some hd2
 refine c_loop (loop_rule hmx (σ := Nat × Int) (fun s => match s with | (_, i_s5_l2) => [(0, Vs p0), (1, Vi p1), (5, Vi i_s5_l2)]) (fun s w' => match s with | (m, i_s5_l2) => loopN (wagonnumber_digits_L2 p0) m i_s5_l2 = some d2 ∧ Ev [] w w' ∧ MS w' [[]] ∧ FR w.heap.size []) (fun s => s.1) (m2, 0) ⟨rfl, rfl, rfl, trivial⟩ ⟨hd2, hev, hms, hfr⟩ ?_)
 rintro ⟨m2, i_s5_l2⟩ J wl2 ⟨hn2, hev, hms, hfr⟩
 rcases m2 with _ | m2
 · exact (loopN_zero hn2).elim
 obtain ⟨t2, h, hn2⟩ := bind_some hn2
 refine c_seq ?_
 refine c_sp ?_
 refine x_pure 2 [(6, Vi i_s5_l2), (7, Vs p0)] _ _ _ (by kernel_rfl) ?_
 refine x_len (vs := [Vs p0]) (Vi (p0.length : Int)) rfl rfl rfl (reads_slen tstr9 _) ?_
 refine x_pure 1 [(9, .bool (decide (i_s5_l2 < (p0.length : Int))))] _ _ _ (by kernel_rfl) ?_
 refine x_ek ?_
 refine c_norm [(0, Vs p0), (1, Vi p1), (5, Vi i_s5_l2), (9, .bool (decide (i_s5_l2 < (p0.length : Int))))] ⟨rfl, rfl, rfl, rfl, trivial⟩ (fun J => ?_)
 refine c_cond (decide (i_s5_l2 < (p0.length : Int))) rfl (fun hb => ?_) (fun hb => ?_)
 · replace h := ite_t hb h
   refine c_skip ?_
   refine k_then ?_
   refine c_seq ?_
   refine c_block ?_
   refine c_sp ?_
   refine x_pure 2 [(12, Vs p0), (13, Vi i_s5_l2)] _ _ _ (by kernel_rfl) ?_
   obtain ⟨x4, hx4, h⟩ := bind_some h
   refine x_index (xv := Vs p0) (yv := Vi i_s5_l2) (.int .u8 x4) rfl rfl rfl rfl (reads_sindex tstr9 hx4) ?_
   refine x_pure 2 [(15, .bool (decide (x4 < 48))), (16, .bool (decide (x4 < 48)))] _ _ _ (by kernel_rfl) ?_
   refine x_split 16 (decide (x4 < 48)) rfl (fun hb => ?_) (fun hb => ?_)
   · replace h := ite_t hb h
     refine x_pure 5 [(17, undef), (18, undef), (19, undef), (20, undef), (21, .bool true)] _ _ _ (by kernel_rfl) ?_
     refine x_ek ?_
     refine c_true rfl ?_
     refine c_sp ?_
     refine x_pure 1 [(4, .bool false)] _ _ _ (by kernel_rfl) ?_
     refine x_ek ?_
     refine c_ret ?_
     refine k_block_ret ?_
     refine k_then_ret ?_
     have hx := some_inj h
     subst hx
     have hy := some_inj hn2
     subst hy
     replace h := h2
     refine k_then_ret ?_
     refine k_block_ret ?_
     refine k_then_ret ?_
     refine r_ret (r_vals [.bool false] ⟨rfl, trivial⟩ ?_)
     have hx := some_inj h
     subst hx
     exact ⟨rfl, hev⟩
   replace h := ite_f hb h
   refine x_pure 2 [(17, Vs p0), (18, Vi i_s5_l2)] _ _ _ (by kernel_rfl) ?_
   obtain ⟨x5, hx5, h⟩ := bind_some h
   refine x_index (xv := Vs p0) (yv := Vi i_s5_l2) (.int .u8 x5) rfl rfl rfl rfl (reads_sindex tstr9 hx5) ?_
   refine x_pure 2 [(20, .bool (decide (x5 > 57))), (21, .bool (decide (x5 > 57)))] _ _ _ (by kernel_rfl) ?_
   refine x_ek ?_
   refine c_cond (decide (x5 > 57)) rfl (fun hb => ?_) (fun hb => ?_)
   · replace h := ite_t hb h
     refine c_sp ?_
     refine x_pure 1 [(4, .bool false)] _ _ _ (by kernel_rfl) ?_
     refine x_ek ?_
     refine c_norm [(4, .bool false)] ⟨rfl, trivial⟩ (fun J => ?_)
     refine c_ret ?_
     refine k_block_ret ?_
     refine k_then_ret ?_
     have hx := some_inj h
     subst hx
     have hy := some_inj hn2
     subst hy
     replace h := h2
     refine k_then_ret ?_
     refine k_block_ret ?_
     refine k_then_ret ?_
     refine r_ret (r_vals [.bool false] ⟨rfl, trivial⟩ ?_)
     have hx := some_inj h
     subst hx
     exact ⟨rfl, hev⟩
   replace h := ite_f hb h
   refine c_skip ?_
   refine k_block ?_
   refine k_then ?_
   refine c_plain ?_
   refine x_pure 3 [(10, Vi i_s5_l2), (11, Vi (IntKind.i64.wrap (i_s5_l2 + 1))), (5, Vi (IntKind.i64.wrap (i_s5_l2 + 1)))] _ _ _ (by kernel_rfl) ?_
   refine x_end rfl ?_
   have hx := some_inj h
   subst hx
   exact k_then ⟨(m2, IntKind.i64.wrap (i_s5_l2 + 1)), ⟨rfl, rfl, rfl, trivial⟩, ⟨hn2, hev, hms, hfr⟩, Nat.lt_succ_self _⟩
 replace h := ite_f hb h
 refine c_exit ?_
 refine k_then_exit ?_
 have hx := some_inj h
 subst hx
 have hy := some_inj hn2
 subst hy
 replace h := h2
 refine k_then_exit ?_
 refine k_block_in ?_
 refine k_then ?_
 refine c_norm [(0, Vs p0), (1, Vi p1)] ⟨rfl, rfl, trivial⟩ (fun J => ?_)
 refine c_sp ?_
 refine x_pure 1 [(22, Vs p0)] _ _ _ (by kernel_rfl) ?_
 refine x_len (vs := [Vs p0]) (Vi (p0.length : Int)) rfl rfl rfl (reads_slen tstr9 _) ?_
 refine x_pure 3 [(24, Vi p1), (25, .bool ((p0.length : Int) == p1)), (4, .bool ((p0.length : Int) == p1))] _ _ _ (by kernel_rfl) ?_
 refine x_ek ?_
 refine c_ret ?_
 refine r_ret (r_vals [.bool ((p0.length : Int) == p1)] ⟨rfl, trivial⟩ ?_)
 have hx := some_inj h
 subst hx
 exact ⟨rfl, hev⟩
def wagonnumber_sum_L1 (p0 : List UInt8) (s : Int × Int) : Option (Step (Int × Int) Int) :=
match s with
| (total_s3_l1, i_s4_l1) =>
(if (decide (i_s4_l1 < (p0.length : Int))) = true then
((sAt p0 i_s4_l1).bind fun x3 =>
(if ((Int.tmod i_s4_l1 2) == 0) = true then
(if (decide ((IntKind.i64.wrap ((IntKind.i64.wrap (IntKind.u8.wrap (x3 - 48))) * 2)) > 9)) = true then
some (.next (IntKind.i64.wrap (total_s3_l1 + (IntKind.i64.wrap ((IntKind.i64.wrap ((IntKind.i64.wrap (IntKind.u8.wrap (x3 - 48))) * 2)) - 9))), IntKind.i64.wrap (i_s4_l1 + 1)))
else
some (.next (IntKind.i64.wrap (total_s3_l1 + (IntKind.i64.wrap ((IntKind.i64.wrap (IntKind.u8.wrap (x3 - 48))) * 2))), IntKind.i64.wrap (i_s4_l1 + 1))))
else
some (.next (IntKind.i64.wrap (total_s3_l1 + (IntKind.i64.wrap (IntKind.u8.wrap (x3 - 48)))), IntKind.i64.wrap (i_s4_l1 + 1)))))
else
some (.done total_s3_l1))

def wagonnumber_sum (p0 : List UInt8) : Option Int :=
((loop (wagonnumber_sum_L1 p0) (0, 0)).bind fun d => match d with
| total_s3_x1 => some total_s3_x1)

theorem wagonnumber_sum_w (p0 : List UInt8) (r : Int) (w : World) (h : wagonnumber_sum p0 = some r) : CallVC Try.prog 36 [Vs p0] w fun v w' => v = Vi r ∧ Ev [] w w' := by
 refine calls_vc hmx Try.func36 (by kernel_rfl) rfl (rs := [.tmp 2]) rfl (by kernel_rfl) (args := [Vs p0]) rfl ?_
 have hev : Ev [] w w := Ev.refl _ _
 have hms : MS w [[]] := ⟨List.pairwise_singleton _ _, fun l hl b hb => by simp only [List.mem_singleton] at hl; subst hl; cases hb⟩
 have hfr : FR w.heap.size [] := FR.nil _
 refine c_sp ?_
 refine x_pure 1 [(2, Vi 0)] _ _ _ (by kernel_rfl) ?_
 refine x_ek ?_
 refine c_sp ?_
 refine x_pure 1 [(3, Vi 0)] _ _ _ (by kernel_rfl) ?_
 refine x_ek ?_
 refine c_seq ?_
 refine c_sp ?_
 refine x_pure 1 [(4, Vi 0)] _ _ _ (by kernel_rfl) ?_
 refine x_ek ?_
 refine c_block ?_
 obtain ⟨d1, hd1, h1⟩ := bind_some h
 obtain ⟨m1, hd1⟩ := loop_some hd1
 refine c_loop (loop_rule hmx (σ := Nat × Int × Int) (fun s => match s with | (_, total_s3_l1, i_s4_l1) => [(0, Vs p0), (3, Vi total_s3_l1), (4, Vi i_s4_l1)]) (fun s w' => match s with | (m, total_s3_l1, i_s4_l1) => loopN (wagonnumber_sum_L1 p0) m (total_s3_l1, i_s4_l1) = some d1 ∧ Ev [] w w' ∧ MS w' [[]] ∧ FR w.heap.size []) (fun s => s.1) (m1, 0, 0) ⟨rfl, rfl, rfl, trivial⟩ ⟨hd1, hev, hms, hfr⟩ ?_)
 rintro ⟨m1, total_s3_l1, i_s4_l1⟩ J wl1 ⟨hn1, hev, hms, hfr⟩
 rcases m1 with _ | m1
 · exact (loopN_zero hn1).elim
 obtain ⟨t1, h, hn1⟩ := bind_some hn1
 refine c_seq ?_
 refine c_sp ?_
 refine x_pure 2 [(6, Vi i_s4_l1), (7, Vs p0)] _ _ _ (by kernel_rfl) ?_
 refine x_len (vs := [Vs p0]) (Vi (p0.length : Int)) rfl rfl rfl (reads_slen tstr9 _) ?_
 refine x_pure 1 [(9, .bool (decide (i_s4_l1 < (p0.length : Int))))] _ _ _ (by kernel_rfl) ?_
 refine x_ek ?_
 refine c_norm [(0, Vs p0), (3, Vi total_s3_l1), (4, Vi i_s4_l1), (9, .bool (decide (i_s4_l1 < (p0.length : Int))))] ⟨rfl, rfl, rfl, rfl, trivial⟩ (fun J => ?_)
 refine c_cond (decide (i_s4_l1 < (p0.length : Int))) rfl (fun hb => ?_) (fun hb => ?_)
 · replace h := ite_t hb h
   refine c_skip ?_
   refine k_then ?_
   refine c_seq ?_
   refine c_block ?_
   refine c_sp ?_
   refine x_pure 2 [(12, Vs p0), (13, Vi i_s4_l1)] _ _ _ (by kernel_rfl) ?_
   obtain ⟨x3, hx3, h⟩ := bind_some h
   refine x_index (xv := Vs p0) (yv := Vi i_s4_l1) (.int .u8 x3) rfl rfl rfl rfl (reads_sindex tstr9 hx3) ?_
   refine x_pure 1 [(15, .int .u8 (IntKind.u8.wrap (x3 - 48)))] _ _ _ (by kernel_rfl) ?_
   refine x_convert (Vi (IntKind.i64.wrap (IntKind.u8.wrap (x3 - 48)))) _ rfl rfl rfl (tcv5_3 (IntKind.u8.wrap (x3 - 48)) _) ?_
   refine inl1 ?_
   refine x_pure 1 [(5, Vi (IntKind.i64.wrap (IntKind.u8.wrap (x3 - 48))))] _ _ _ (by kernel_rfl) ?_
   refine x_ek ?_
   refine c_seq ?_
   refine c_sp ?_
   refine x_pure 3 [(17, Vi i_s4_l1), (18, Vi (Int.tmod i_s4_l1 2)), (19, .bool ((Int.tmod i_s4_l1 2) == 0))] _ _ _ (by kernel_rfl) ?_
   refine x_ek ?_
   refine c_cond ((Int.tmod i_s4_l1 2) == 0) rfl (fun hb => ?_) (fun hb => ?_)
   · replace h := ite_t hb h
     refine c_sp ?_
     refine x_pure 3 [(20, Vi (IntKind.i64.wrap (IntKind.u8.wrap (x3 - 48)))), (21, Vi (IntKind.i64.wrap ((IntKind.i64.wrap (IntKind.u8.wrap (x3 - 48))) * 2))), (5, Vi (IntKind.i64.wrap ((IntKind.i64.wrap (IntKind.u8.wrap (x3 - 48))) * 2)))] _ _ _ (by kernel_rfl) ?_
     refine x_ek ?_
     refine c_norm [(0, Vs p0), (3, Vi total_s3_l1), (4, Vi i_s4_l1), (5, Vi (IntKind.i64.wrap ((IntKind.i64.wrap (IntKind.u8.wrap (x3 - 48))) * 2)))] ⟨rfl, rfl, rfl, rfl, trivial⟩ (fun J => ?_)
     refine c_sp ?_
     refine x_pure 2 [(22, Vi (IntKind.i64.wrap ((IntKind.i64.wrap (IntKind.u8.wrap (x3 - 48))) * 2))), (23, .bool (decide ((IntKind.i64.wrap ((IntKind.i64.wrap (IntKind.u8.wrap (x3 - 48))) * 2)) > 9)))] _ _ _ (by kernel_rfl) ?_
     refine x_ek ?_
     refine c_cond (decide ((IntKind.i64.wrap ((IntKind.i64.wrap (IntKind.u8.wrap (x3 - 48))) * 2)) > 9)) rfl (fun hb => ?_) (fun hb => ?_)
     · replace h := ite_t hb h
       refine c_plain ?_
       refine x_pure 3 [(24, Vi (IntKind.i64.wrap ((IntKind.i64.wrap (IntKind.u8.wrap (x3 - 48))) * 2))), (25, Vi (IntKind.i64.wrap ((IntKind.i64.wrap ((IntKind.i64.wrap (IntKind.u8.wrap (x3 - 48))) * 2)) - 9))), (5, Vi (IntKind.i64.wrap ((IntKind.i64.wrap ((IntKind.i64.wrap (IntKind.u8.wrap (x3 - 48))) * 2)) - 9)))] _ _ _ (by kernel_rfl) ?_
       refine x_ek ?_
       refine c_plain ?_
       refine x_pure 4 [(26, Vi total_s3_l1), (27, Vi (IntKind.i64.wrap ((IntKind.i64.wrap ((IntKind.i64.wrap (IntKind.u8.wrap (x3 - 48))) * 2)) - 9))), (28, Vi (IntKind.i64.wrap (total_s3_l1 + (IntKind.i64.wrap ((IntKind.i64.wrap ((IntKind.i64.wrap (IntKind.u8.wrap (x3 - 48))) * 2)) - 9))))), (3, Vi (IntKind.i64.wrap (total_s3_l1 + (IntKind.i64.wrap ((IntKind.i64.wrap ((IntKind.i64.wrap (IntKind.u8.wrap (x3 - 48))) * 2)) - 9)))))] _ _ _ (by kernel_rfl) ?_
       refine x_end rfl ?_
       refine k_block ?_
       refine k_then ?_
       refine c_plain ?_
       refine x_pure 3 [(10, Vi i_s4_l1), (11, Vi (IntKind.i64.wrap (i_s4_l1 + 1))), (4, Vi (IntKind.i64.wrap (i_s4_l1 + 1)))] _ _ _ (by kernel_rfl) ?_
       refine x_end rfl ?_
       have hx := some_inj h
       subst hx
       exact k_then ⟨(m1, IntKind.i64.wrap (total_s3_l1 + (IntKind.i64.wrap ((IntKind.i64.wrap ((IntKind.i64.wrap (IntKind.u8.wrap (x3 - 48))) * 2)) - 9))), IntKind.i64.wrap (i_s4_l1 + 1)), ⟨rfl, rfl, rfl, trivial⟩, ⟨hn1, hev, hms, hfr⟩, Nat.lt_succ_self _⟩
     replace h := ite_f hb h
     refine c_skip ?_
     refine k_then ?_
     refine c_plain ?_
     refine x_pure 4 [(26, Vi total_s3_l1), (27, Vi (IntKind.i64.wrap ((IntKind.i64.wrap (IntKind.u8.wrap (x3 - 48))) * 2))), (28, Vi (IntKind.i64.wrap (total_s3_l1 + (IntKind.i64.wrap ((IntKind.i64.wrap (IntKind.u8.wrap (x3 - 48))) * 2))))), (3, Vi (IntKind.i64.wrap (total_s3_l1 + (IntKind.i64.wrap ((IntKind.i64.wrap (IntKind.u8.wrap (x3 - 48))) * 2)))))] _ _ _ (by kernel_rfl) ?_
     refine x_end rfl ?_
     refine k_block ?_
     refine k_then ?_
     refine c_plain ?_
     refine x_pure 3 [(10, Vi i_s4_l1), (11, Vi (IntKind.i64.wrap (i_s4_l1 + 1))), (4, Vi (IntKind.i64.wrap (i_s4_l1 + 1)))] _ _ _ (by kernel_rfl) ?_
     refine x_end rfl ?_
     have hx := some_inj h
     subst hx
     exact k_then ⟨(m1, IntKind.i64.wrap (total_s3_l1 + (IntKind.i64.wrap ((IntKind.i64.wrap (IntKind.u8.wrap (x3 - 48))) * 2))), IntKind.i64.wrap (i_s4_l1 + 1)), ⟨rfl, rfl, rfl, trivial⟩, ⟨hn1, hev, hms, hfr⟩, Nat.lt_succ_self _⟩
   replace h := ite_f hb h
   refine c_skip ?_
   refine k_then ?_
   refine c_plain ?_
   refine x_pure 4 [(26, Vi total_s3_l1), (27, Vi (IntKind.i64.wrap (IntKind.u8.wrap (x3 - 48)))), (28, Vi (IntKind.i64.wrap (total_s3_l1 + (IntKind.i64.wrap (IntKind.u8.wrap (x3 - 48)))))), (3, Vi (IntKind.i64.wrap (total_s3_l1 + (IntKind.i64.wrap (IntKind.u8.wrap (x3 - 48))))))] _ _ _ (by kernel_rfl) ?_
   refine x_end rfl ?_
   refine k_block ?_
   refine k_then ?_
   refine c_norm [(0, Vs p0), (3, Vi (IntKind.i64.wrap (total_s3_l1 + (IntKind.i64.wrap (IntKind.u8.wrap (x3 - 48)))))), (4, Vi i_s4_l1)] ⟨rfl, rfl, rfl, trivial⟩ (fun J => ?_)
   refine c_plain ?_
   refine x_pure 3 [(10, Vi i_s4_l1), (11, Vi (IntKind.i64.wrap (i_s4_l1 + 1))), (4, Vi (IntKind.i64.wrap (i_s4_l1 + 1)))] _ _ _ (by kernel_rfl) ?_
   refine x_end rfl ?_
   have hx := some_inj h
   subst hx
   exact k_then ⟨(m1, IntKind.i64.wrap (total_s3_l1 + (IntKind.i64.wrap (IntKind.u8.wrap (x3 - 48)))), IntKind.i64.wrap (i_s4_l1 + 1)), ⟨rfl, rfl, rfl, trivial⟩, ⟨hn1, hev, hms, hfr⟩, Nat.lt_succ_self _⟩
 replace h := ite_f hb h
 refine c_exit ?_
 refine k_then_exit ?_
 have hx := some_inj h
 subst hx
 have hy := some_inj hn1
 subst hy
 replace h := h1
 refine k_then_exit ?_
 refine k_block_in ?_
 refine k_then ?_
 refine c_norm [(3, Vi total_s3_l1)] ⟨rfl, trivial⟩ (fun J => ?_)
 refine c_sp ?_
 refine x_pure 2 [(29, Vi total_s3_l1), (2, Vi total_s3_l1)] _ _ _ (by kernel_rfl) ?_
 refine x_ek ?_
 refine c_ret ?_
 refine r_ret (r_vals [Vi total_s3_l1] ⟨rfl, trivial⟩ ?_)
 have hx := some_inj h
 subst hx
 exact ⟨rfl, hev⟩
def wagonnumber_check (p0 : List UInt8) : Option Int :=
((wagonnumber_sum p0).bind fun x1 =>
some (Int.tmod (IntKind.i64.wrap (10 - (Int.tmod x1 10))) 10))

theorem wagonnumber_check_w (p0 : List UInt8) (r : Int) (w : World) (h : wagonnumber_check p0 = some r) : CallVC Try.prog 23 [Vs p0] w fun v w' => v = Vi r ∧ Ev [] w w' := by
 refine calls_vc hmx Try.func23 (by kernel_rfl) rfl (rs := [.tmp 2]) rfl (by kernel_rfl) (args := [Vs p0]) rfl ?_
 have hev : Ev [] w w := Ev.refl _ _
 have hms : MS w [[]] := ⟨List.pairwise_singleton _ _, fun l hl b hb => by simp only [List.mem_singleton] at hl; subst hl; cases hb⟩
 have hfr : FR w.heap.size [] := FR.nil _
 refine c_sp ?_
 refine x_pure 1 [(2, Vi 0)] _ _ _ (by kernel_rfl) ?_
 refine x_ek ?_
 refine c_sp ?_
 refine x_pure 1 [(3, Vs p0)] _ _ _ (by kernel_rfl) ?_
 obtain ⟨x1, hx, h⟩ := bind_some h
 have hcall := wagonnumber_sum_w p0 _ w hx
 refine x_call 36 #[] #[] [Vs p0] _ rfl rfl rfl rfl hcall ?_
 rintro v w2 ⟨rfl, he2⟩
 clear hcall hx
 refine inl1 ?_
 replace hms := hms.ev he2
 replace hev := hev.ext he2
 refine x_pure 4 [(5, Vi (Int.tmod x1 10)), (6, Vi (IntKind.i64.wrap (10 - (Int.tmod x1 10)))), (7, Vi (Int.tmod (IntKind.i64.wrap (10 - (Int.tmod x1 10))) 10)), (2, Vi (Int.tmod (IntKind.i64.wrap (10 - (Int.tmod x1 10))) 10))] _ _ _ (by kernel_rfl) ?_
 refine x_ek ?_
 refine c_ret ?_
 refine r_ret (r_vals [Vi (Int.tmod (IntKind.i64.wrap (10 - (Int.tmod x1 10))) 10)] ⟨rfl, trivial⟩ ?_)
 have hx := some_inj h
 subst hx
 exact ⟨rfl, hev⟩
def wagonnumber_Valid (p0 : List UInt8) : Option Int :=
((wagonnumber_digits p0 12).bind fun x2 =>
(if (!x2) = true then
some 11
else
((sAt p0 11).bind fun x4 =>
(if 0 ≤ ((0 : Int) : Int) ∧ ((0 : Int) : Int) ≤ (11 : Int) ∧ (11 : Int) ≤ (p0.length : Int) then
((wagonnumber_check ((p0.drop (Int.toNat (0 : Int))).take (Int.toNat 11 - Int.toNat (0 : Int)))).bind fun x5 =>
(if ((IntKind.i64.wrap (IntKind.u8.wrap (x4 - 48))) != x5) = true then
some 9
else
some 0))
else none))))

theorem wagonnumber_Valid_w (p0 : List UInt8) (r : Int) (w : World) (h : wagonnumber_Valid p0 = some r) : CallVC Try.prog 11 [Vs p0] w fun v w' => v = Vi r ∧ Ev [] w w' := by
 refine calls_vc hmx Try.func11 (by kernel_rfl) rfl (rs := [.tmp 2]) rfl (by kernel_rfl) (args := [Vs p0]) rfl ?_
 have hev : Ev [] w w := Ev.refl _ _
 have hms : MS w [[]] := ⟨List.pairwise_singleton _ _, fun l hl b hb => by simp only [List.mem_singleton] at hl; subst hl; cases hb⟩
 have hfr : FR w.heap.size [] := FR.nil _
 refine c_sp ?_
 refine x_pure 1 [(2, Vi 0)] _ _ _ (by kernel_rfl) ?_
 refine x_ek ?_
 refine c_seq ?_
 refine c_sp ?_
 refine x_pure 1 [(3, Vs p0)] _ _ _ (by kernel_rfl) ?_
 obtain ⟨x2, hx, h⟩ := bind_some h
 have hcall := wagonnumber_digits_w p0 12 _ w hx
 refine x_call 22 #[] #[] [Vs p0, Vi 12] _ rfl rfl rfl rfl hcall ?_
 rintro v w3 ⟨rfl, he3⟩
 clear hcall hx
 refine inl1 ?_
 replace hms := hms.ev he3
 replace hev := hev.ext he3
 refine x_pure 1 [(5, .bool (!x2))] _ _ _ (by kernel_rfl) ?_
 refine x_ek ?_
 refine c_cond (!x2) rfl (fun hb => ?_) (fun hb => ?_)
 · replace h := ite_t hb h
   refine c_sp ?_
   refine x_pure 1 [(2, Vi 11)] _ _ _ (by kernel_rfl) ?_
   refine x_ek ?_
   refine c_ret ?_
   refine k_then_ret ?_
   refine r_ret (r_vals [Vi 11] ⟨rfl, trivial⟩ ?_)
   have hx := some_inj h
   subst hx
   exact ⟨rfl, hev⟩
 replace h := ite_f hb h
 refine c_skip ?_
 refine k_then ?_
 refine c_seq ?_
 refine c_seq ?_
 refine c_drawnp [] [(0, false), (1, false), (2, false), (4, false), (5, false)] (.alt 3 false (opsThen [(6, false), (7, false)] .stop) (.alt 6 false (opsThen [(3, false), (7, false)] .stop) .none_)) _ (by kernel_rfl) rfl ?_
 replace hms := hms.ev (Ev.drew w3)
 replace hev := hev.ext (Ev.drew w3)
 refine x_pure 1 [(6, Vs p0)] _ _ _ (by kernel_rfl) ?_
 obtain ⟨x4, hx4, h⟩ := bind_some h
 refine x_index (xv := Vs p0) (yv := Vi 11) (.int .u8 x4) rfl rfl rfl rfl (reads_sindex tstr9 hx4) ?_
 refine x_pure 2 [(8, .int .u8 (IntKind.u8.wrap (x4 - 48))), (10, Vs p0)] _ _ _ (by kernel_rfl) ?_
 have hg := guard_l h
 replace h := guard_r h
 refine x_slice (xv := Vs p0) (lv := none) (hv := (some (Vi 11))) (mv := none) (Vs ((p0.drop (Int.toNat (0 : Int))).take (Int.toNat 11 - Int.toNat (0 : Int)))) rfl rfl rfl rfl rfl rfl (reads_scut tstr9 _ none (some 11) hg) ?_
 refine x_end rfl ?_
 refine t_alt _ rfl ?_ ?_
 · refine x_convert (Vi (IntKind.i64.wrap (IntKind.u8.wrap (x4 - 48)))) _ rfl rfl rfl (tcv5_3 (IntKind.u8.wrap (x4 - 48)) _) ?_
   refine ⟨.inr (Ev.refl _ _), ?_⟩
   obtain ⟨x5, hx, h⟩ := bind_some h
   have hcall := wagonnumber_check_w ((p0.drop (Int.toNat (0 : Int))).take (Int.toNat 11 - Int.toNat (0 : Int))) _ (w3).drew hx
   refine x_call 23 #[] #[] [Vs ((p0.drop (Int.toNat (0 : Int))).take (Int.toNat 11 - Int.toNat (0 : Int)))] _ rfl rfl rfl rfl hcall ?_
   rintro v w6 ⟨rfl, he6⟩
   clear hcall hx
   refine ⟨.inr he6, ?_⟩
   replace hms := hms.ev he6
   replace hev := hev.ext he6
   refine x_pure 1 [(13, .bool ((IntKind.i64.wrap (IntKind.u8.wrap (x4 - 48))) != x5))] _ _ _ (by kernel_rfl) ?_
   refine x_end rfl ?_
   refine t_stop ?_
   refine k_then ?_
   refine c_cond ((IntKind.i64.wrap (IntKind.u8.wrap (x4 - 48))) != x5) rfl (fun hb => ?_) (fun hb => ?_)
   · replace h := ite_t hb h
     refine c_sp ?_
     refine x_pure 1 [(2, Vi 9)] _ _ _ (by kernel_rfl) ?_
     refine x_ek ?_
     refine c_norm [(2, Vi 9)] ⟨rfl, trivial⟩ (fun J => ?_)
     refine c_ret ?_
     refine k_then_ret ?_
     refine r_ret (r_vals [Vi 9] ⟨rfl, trivial⟩ ?_)
     have hx := some_inj h
     subst hx
     exact ⟨rfl, hev⟩
   replace h := ite_f hb h
   refine c_skip ?_
   refine k_then ?_
   refine c_norm [] trivial (fun J => ?_)
   refine c_sp ?_
   refine x_pure 1 [(2, Vi 0)] _ _ _ (by kernel_rfl) ?_
   refine x_ek ?_
   refine c_ret ?_
   refine r_ret (r_vals [Vi 0] ⟨rfl, trivial⟩ ?_)
   have hx := some_inj h
   subst hx
   exact ⟨rfl, hev⟩
 refine t_alt _ rfl ?_ ?_
 · obtain ⟨x5, hx, h⟩ := bind_some h
   have hcall := wagonnumber_check_w ((p0.drop (Int.toNat (0 : Int))).take (Int.toNat 11 - Int.toNat (0 : Int))) _ (w3).drew hx
   refine x_call 23 #[] #[] [Vs ((p0.drop (Int.toNat (0 : Int))).take (Int.toNat 11 - Int.toNat (0 : Int)))] _ rfl rfl rfl rfl hcall ?_
   rintro v w6 ⟨rfl, he6⟩
   clear hcall hx
   refine ⟨.inr he6, ?_⟩
   replace hms := hms.ev he6
   replace hev := hev.ext he6
   refine x_convert (Vi (IntKind.i64.wrap (IntKind.u8.wrap (x4 - 48)))) _ rfl rfl rfl (tcv5_3 (IntKind.u8.wrap (x4 - 48)) _) ?_
   refine ⟨.inr (Ev.refl _ _), ?_⟩
   refine x_pure 1 [(13, .bool ((IntKind.i64.wrap (IntKind.u8.wrap (x4 - 48))) != x5))] _ _ _ (by kernel_rfl) ?_
   refine x_end rfl ?_
   refine t_stop ?_
   refine k_then ?_
   refine c_cond ((IntKind.i64.wrap (IntKind.u8.wrap (x4 - 48))) != x5) rfl (fun hb => ?_) (fun hb => ?_)
   · replace h := ite_t hb h
     refine c_sp ?_
     refine x_pure 1 [(2, Vi 9)] _ _ _ (by kernel_rfl) ?_
     refine x_ek ?_
     refine c_norm [(2, Vi 9)] ⟨rfl, trivial⟩ (fun J => ?_)
     refine c_ret ?_
     refine k_then_ret ?_
     refine r_ret (r_vals [Vi 9] ⟨rfl, trivial⟩ ?_)
     have hx := some_inj h
     subst hx
     exact ⟨rfl, hev⟩
   replace h := ite_f hb h
   refine c_skip ?_
   refine k_then ?_
   refine c_norm [] trivial (fun J => ?_)
   refine c_sp ?_
   refine x_pure 1 [(2, Vi 0)] _ _ _ (by kernel_rfl) ?_
   refine x_ek ?_
   refine c_ret ?_
   refine r_ret (r_vals [Vi 0] ⟨rfl, trivial⟩ ?_)
   have hx := some_inj h
   subst hx
   exact ⟨rfl, hev⟩
 exact t_none
def wagonnumber_Repairs_1 (p0 : List Int) (p1 : List (List UInt8)) : Option (List (List UInt8)) :=
((wagonnumber_Valid (ofB p0)).bind fun x4 =>
(if (x4 == 0) = true then
(if p1.length + ([(ofB p0)] : List (List UInt8)).length ≤ 4294967296 then
some (p1 ++ ([(ofB p0)] : List (List UInt8)))
else none)
else
some p1))

theorem wagonnumber_Repairs_1_w (a_p0 : Option Addr) (c_p0 : Nat) (p0 : List Int) (b_p1 : Nat) (a_p1 : Option Addr) (c_p1 : Nat) (p1 : List (List UInt8)) (r : (List (List UInt8))) (w : World) (M : List Nat) (hms : MS w [[b_p1], blk a_p1, M]) (hs_p0 : SlR (eInt .u8) w (fl [[b_p1], blk a_p1, M]) a_p0 c_p0 p0) (hs_p1 : OwnS eStr 9 w (fl [[b_p1], blk a_p1, M]) a_p1 c_p1 p1) (hb_p1 : w.heap[b_p1]? = some (.cells #[.slice a_p1 (p1).length c_p1] 29 (0, 0))) (h : wagonnumber_Repairs_1 p0 p1 = some r) : CallVC Try.prog 24 [.slice a_p0 (p0).length c_p0, Vp b_p1 0] w fun v w' => ∃ (a0' : Option Addr), ∃ (c0' : Nat), v = .tuple #[] ∧ Ev (fl [[b_p1], blk a_p1]) w w' ∧ w'.heap[b_p1]? = some (.cells #[.slice a0' (r).length c0'] 29 (0, 0)) ∧ OwnS eStr 9 w' (fl [[b_p1], blk a0', M]) a0' c0' r ∧ MS w' [[b_p1], blk a0', M] ∧ FR w.heap.size [] ∧ NP (fl [[b_p1], blk a_p1]) w.heap.size [[b_p1], blk a0'] := by
 refine calls_vc hmx Try.func24 (by kernel_rfl) rfl (rs := []) rfl (by kernel_rfl) (args := [.slice a_p0 (p0).length c_p0, Vp b_p1 0]) rfl ?_
 have hev : Ev (fl [[b_p1], blk a_p1]) w w := Ev.refl _ _
 have hfr : FR w.heap.size [] := FR.nil _
 have hpr : NP (fl [[b_p1], blk a_p1]) w.heap.size [[b_p1], blk a_p1] := NP.init _ _
 refine c_sp ?_
 refine x_pure 1 [(4, .slice a_p0 (p0).length c_p0)] _ _ _ (by kernel_rfl) ?_
 refine x_convert (xv := .slice a_p0 (p0).length c_p0) (Vs (ofB p0)) _ rfl rfl rfl (run_ofB tuns26 tint5 tstr9 hs_p0) ?_
 refine inl1 ?_
 refine x_pure 1 [(3, Vs (ofB p0))] _ _ _ (by kernel_rfl) ?_
 refine x_ek ?_
 refine c_sp ?_
 refine x_pure 1 [(6, Vs (ofB p0))] _ _ _ (by kernel_rfl) ?_
 obtain ⟨x4, hx, h⟩ := bind_some h
 have hcall := wagonnumber_Valid_w (ofB p0) _ w hx
 refine x_call 11 #[] #[] [Vs (ofB p0)] _ rfl rfl rfl rfl hcall ?_
 rintro v w5 ⟨rfl, he5⟩
 clear hcall hx
 refine inl1 ?_
 have hst := Stp.ext (ls := [[b_p1], blk a_p1, M]) he5
 replace hs_p1 := hs_p1.step hst he5 nn2
 replace hb_p1 := he5.box hb_p1 nn
 replace hms := hms.ev he5
 replace hev := hev.ext he5
 refine x_pure 1 [(8, .bool (x4 == 0))] _ _ _ (by kernel_rfl) ?_
 refine x_ek ?_
 refine c_cond (x4 == 0) rfl (fun hb => ?_) (fun hb => ?_)
 · replace h := ite_t hb h
   refine c_plain ?_
   refine x_load (xv := Vp b_p1 0) (.slice a_p1 (p1).length c_p1) rfl rfl rfl (reads_box tcell29 hb_p1 nn 0 _ rfl) ?_
   refine x_pure 1 [(10, Vs (ofB p0))] _ _ _ (by kernel_rfl) ?_
   refine x_buildSlice (vs := [(0, Vs (ofB p0))]) #[Vs (ofB p0)] 9 rfl rfl rfl (by kernel_rfl) (fun b6 w6 hq6 hb6 he6 hz6 => ?_)
   refine inl1 ?_
   have hms0 := hms
   have hst := Stp.ext (ls := [[b_p1], blk a_p1, M]) he6
   replace hs_p1 := hs_p1.step hst he6 nn2
   replace hb_p1 := he6.box hb_p1 nn
   replace hms := hms.ev he6
   replace hev := hev.ext he6
   have hs6 : SlR eStr w6 (fl [[b_p1], blk a_p1, M]) (Ad b6 0) 1 ([(ofB p0)] : List (List UInt8)) := ro_of_box hms0 hq6 hb6 rfl rfl (cells_at (cs := [Vs (ofB p0)]) (CellsOf.cons (c := [Vs (ofB p0)]) rfl CellsOf.nil))
   clear hb6 hms0
   have hg := guard_l h
   replace h := guard_r h
   obtain ⟨a8, c8, w8, hr8, he8, hn8, hm8, hw8⟩ := own_appendN tel29 29 hs_p1 (mem_flat 1 rfl) hs6 hg
   refine x_builtin (vs := [.slice a_p1 (p1).length c_p1, .slice (Ad b6 0) (([(ofB p0)] : List (List UInt8))).length 1]) _ w8 rfl rfl rfl rfl (run_value _ _ _ _ hr8) ?_
   refine inl1 ?_
   have hst : Stp (fl [[b_p1], blk a_p1, M]) w6 (fl [[b_p1], blk a8, M]) w8 := Stp.upd 1 he8 rfl (fun b hb => (hn8 b hb).1)
   replace hb_p1 := he8.box hb_p1 (hms.apart 0 1 rfl rfl rfl _ mem1)
   replace hs6 := hs6.step hst
   replace hms : MS w8 [[b_p1], blk a8, M] := hms.upd 1 he8 rfl hn8
   have hpr2 : NP (fl [[b_p1], blk a_p1]) w.heap.size [[b_p1], blk a8] := (NP.cons (hpr.at 0 rfl) (NP.cons (fun b hb => (hn8 b hb).1.elim (fun h => hpr.at 1 rfl b h) (fun h => .inr (Nat.le_trans hev.size h))) (NP.nil _ _)))
   replace hev := hev.then he8 (hpr.at 1 rfl)
   replace hpr := hpr2
   clear hpr2
   replace hs_p1 := hw8 (fl [[b_p1], blk a8, M]) hst.new
   clear hw8
   obtain ⟨w9, hr9, hb9, he9⟩ := store_box 0 (.slice a8 ((p1 ++ ([(ofB p0)] : List (List UInt8)))).length c8) #[.slice a8 ((p1 ++ ([(ofB p0)] : List (List UInt8)))).length c8] tcell29 hb_p1 rfl rfl rfl
   refine x_store w9 (xv := Vp b_p1 0) (yv := .slice a8 ((p1 ++ ([(ofB p0)] : List (List UInt8)))).length c8) rfl rfl rfl rfl hr9 ?_
   refine inl1 ?_
   have hst := Stp.ev' (ls := [[b_p1], blk a8, M]) he9 (mem_flat 0 rfl)
   replace hs_p1 := hs_p1.step hst he9 (hms.apart 1 0 rfl rfl rfl)
   replace hs6 := hs6.step hst
   replace hms := hms.ev he9
   replace hev := hev.then he9 (hpr.at 0 rfl)
   replace hb_p1 := hb9
   refine x_end rfl ?_
   refine r_normal (r_vals [] trivial ?_)
   have hx := some_inj h
   subst hx
   have hmr : MS w9 [[b_p1], blk a8, M] := hms.pick [some 0, some 1, some 2] _ rfl
   have hsu : ∀ x ∈ fl [[b_p1], blk a8, M], x ∈ fl [[b_p1], blk a8, M] := pick_sub [some 0, some 1, some 2] _ rfl
   have hfe : FR w.heap.size [] := hfr.pick [] _ rfl
   exact ⟨a8, c8, rfl, hev, hb_p1, hs_p1.sub hsu, hmr, hfe, (NP.cons (hpr.at 0 rfl) (NP.cons (hpr.at 1 rfl) (NP.nil _ _)))⟩
 replace h := ite_f hb h
 refine c_skip ?_
 refine r_normal (r_vals [] trivial ?_)
 have hx := some_inj h
 subst hx
 have hmr : MS w5 [[b_p1], blk a_p1, M] := hms.pick [some 0, some 1, some 2] _ rfl
 have hsu : ∀ x ∈ fl [[b_p1], blk a_p1, M], x ∈ fl [[b_p1], blk a_p1, M] := pick_sub [some 0, some 1, some 2] _ rfl
 have hfe : FR w.heap.size [] := hfr.pick [] _ rfl
 exact ⟨a_p1, c_p1, rfl, hev, hb_p1, hs_p1.sub hsu, hmr, hfe, (NP.cons (hpr.at 0 rfl) (NP.cons (hpr.at 1 rfl) (NP.nil _ _)))⟩
def wagonnumber_Repairs_J25 (p0 : List UInt8) (i_s6_l7 : Int) (d9_x12 : List (List UInt8)) (t47__s47_j25 : Bool) : Option (Step ((List (List UInt8)) × Int) (List (List UInt8))) :=
(if t47__s47_j25 = true then
(if p0.length ≤ 4294967296 then
((idx (toB p0) (IntKind.i64.wrap (i_s6_l7 + 1))).bind fun x31 =>
((idx (toB p0) i_s6_l7).bind fun x34 =>
((idx (toB p0) i_s6_l7).bind fun x37 =>
((idx ((toB p0).set (Int.toNat i_s6_l7) x31) (IntKind.i64.wrap (i_s6_l7 + 1))).bind fun x42 =>
((wagonnumber_Repairs_1 (((toB p0).set (Int.toNat i_s6_l7) x31).set (Int.toNat (IntKind.i64.wrap (i_s6_l7 + 1))) x34) d9_x12).bind fun x47 =>
some (.next (x47, IntKind.i64.wrap (i_s6_l7 + 1))))))))
else none)
else
some (.next (d9_x12, IntKind.i64.wrap (i_s6_l7 + 1))))

def wagonnumber_Repairs_L12 (p0 : List UInt8) (i_s6_l7 : Int) (s : (List (List UInt8)) × Int) : Option (Step ((List (List UInt8)) × Int) (List (List UInt8))) :=
match s with
| (d9_l12, v_d_s7_l12) =>
(if (decide (v_d_s7_l12 ≤ 57)) = true then
((sAt p0 i_s6_l7).bind fun x14 =>
(if (v_d_s7_l12 != x14) = true then
(if p0.length ≤ 4294967296 then
((idx (toB p0) i_s6_l7).bind fun x18 =>
((wagonnumber_Repairs_1 ((toB p0).set (Int.toNat i_s6_l7) v_d_s7_l12) d9_l12).bind fun x23 =>
some (.next (x23, IntKind.u8.wrap (v_d_s7_l12 + 1)))))
else none)
else
some (.next (d9_l12, IntKind.u8.wrap (v_d_s7_l12 + 1)))))
else
some (.done d9_l12))

def wagonnumber_Repairs_L7 (p0 : List UInt8) (s : (List (List UInt8)) × Int) : Option (Step ((List (List UInt8)) × Int) (List (List UInt8))) :=
match s with
| (d9_l7, i_s6_l7) =>
(if (decide (i_s6_l7 < 12)) = true then
((loop (wagonnumber_Repairs_L12 p0 i_s6_l7) (d9_l7, 48)).bind fun d => match d with
| d9_x12 => (if (decide (i_s6_l7 < 11)) = true then
((sAt p0 i_s6_l7).bind fun x26 =>
((sAt p0 (IntKind.i64.wrap (i_s6_l7 + 1))).bind fun x27 =>
wagonnumber_Repairs_J25 p0 i_s6_l7 d9_x12 (x26 != x27)))
else
wagonnumber_Repairs_J25 p0 i_s6_l7 d9_x12 false))
else
some (.done d9_l7))

def wagonnumber_Repairs (p0 : List UInt8) : Option ((List (List UInt8)) × Int) :=
((wagonnumber_digits p0 12).bind fun x2 =>
(if (!x2) = true then
some ([], 11)
else
((loop (wagonnumber_Repairs_L7 p0) (([] : List (List UInt8)), 0)).bind fun d => match d with
| d9_x7 => (if d9_x7.length ≤ 4294967296 then
some ((Go.Lib.compact (sortS d9_x7)), 0)
else none))))

theorem wagonnumber_Repairs_w (p0 : List UInt8) (r : (List (List UInt8)) × Int) (w : World) (M : List Nat) (hms : MS w [M]) (h : wagonnumber_Repairs p0 = some r) : CallVC Try.prog 12 [Vs p0] w fun v w' => ∃ (a0' : Option Addr), ∃ (c0' : Nat), v = .tuple #[.slice a0' (r.1).length c0', Vi r.2] ∧ Ev [] w w' ∧ MS w' [blk a0', M] ∧ FR w.heap.size [blk a0'] ∧ OwnS eStr 9 w' (fl [blk a0', M]) a0' c0' r.1 := by
 refine calls_vc hmx Try.func12 (by kernel_rfl) rfl (rs := [.tmp 2, .tmp 3]) rfl (by kernel_rfl) (args := [Vs p0]) rfl ?_
 have hev : Ev [] w w := Ev.refl _ _
 have hfr : FR w.heap.size [] := FR.nil _
 refine c_sp ?_
 refine x_pure 2 [(2, .slice none 0 0), (3, Vi 0)] _ _ _ (by kernel_rfl) ?_
 refine x_ek ?_
 refine c_seq ?_
 refine c_sp ?_
 refine x_pure 1 [(10, Vs p0)] _ _ _ (by kernel_rfl) ?_
 obtain ⟨x2, hx, h⟩ := bind_some h
 have hcall := wagonnumber_digits_w p0 12 _ w hx
 refine x_call 22 #[] #[] [Vs p0, Vi 12] _ rfl rfl rfl rfl hcall ?_
 rintro v w3 ⟨rfl, he3⟩
 clear hcall hx
 refine inl1 ?_
 replace hms := hms.ev he3
 replace hev := hev.ext he3
 refine x_pure 1 [(12, .bool (!x2))] _ _ _ (by kernel_rfl) ?_
 refine x_ek ?_
 refine c_cond (!x2) rfl (fun hb => ?_) (fun hb => ?_)
 · replace h := ite_t hb h
   refine c_sp ?_
   refine x_pure 2 [(2, .slice none 0 0), (3, Vi 11)] _ _ _ (by kernel_rfl) ?_
   refine x_ek ?_
   refine c_ret ?_
   refine k_then_ret ?_
   refine r_ret (r_vals [.slice none 0 0, Vi 11] ⟨rfl, rfl, trivial⟩ ?_)
   have hx := some_inj h
   subst hx
   have hmr : MS w3 [blk none, M] := hms.pick [none, some 0] _ rfl
   have hsu : ∀ x ∈ fl [blk none, M], x ∈ fl [M] := pick_sub [none, some 0] _ rfl
   have hfe : FR w.heap.size [blk none] := hfr.pick [none] _ rfl
   exact ⟨none, 0, rfl, hev, hmr, hfe, OwnS.nil _ _ _ _⟩
 replace h := ite_f hb h
 refine c_skip ?_
 refine k_then ?_
 refine c_sp ?_
 refine x_alloc (z := .slice none 0 0) rfl rfl (by kernel_rfl) (fun b4 w4 hq4 hb4 he4 hz4 => ?_)
 replace hb4 : w4.heap[b4]? = some (.cells #[.slice none 0 0] 29 (0, 0)) := hb4
 refine inl1 ?_
 replace hms := hms.box he4 hq4 hb4
 replace hfr := hfr.box hev.size hq4
 replace hev := hev.ext he4
 refine x_ek ?_
 refine c_sp ?_
 refine x_makeFunc 24 #[] #[Vp b4 0] rfl rfl rfl rfl ?_
 refine x_pure 1 [(5, (.func (.func 24) #[] #[Vp b4 0]))] _ _ _ (by kernel_rfl) ?_
 refine x_ek ?_
 refine c_seq ?_
 refine c_sp ?_
 refine x_pure 1 [(6, Vi 0)] _ _ _ (by kernel_rfl) ?_
 refine x_ek ?_
 refine c_block ?_
 replace hb4 := (Ev.refl [] _).box hb4 nn
 replace hms := hms.push (l := blk none) (Ev.refl [] _) (fun _ h => by cases h)
 replace hfr := hfr.push (l := blk none) (fun _ h => by cases h)
 have ho8 := OwnS.nil eStr 9 w4 (fl [blk none, [b4], M])
 obtain ⟨d7, hd7, h7⟩ := bind_some h
 obtain ⟨m7, hd7⟩ := loop_some hd7
 refine c_loop (loop_rule hmx (σ := Nat × (List (List UInt8)) × Int × Option Addr × Nat) (fun s => match s with | (_, d9_l7, i_s6_l7, a9_l7, c9_l7) => [(0, Vs p0), (4, Vp b4 0), (5, (.func (.func 24) #[] #[Vp b4 0])), (6, Vi i_s6_l7)]) (fun s w' => match s with | (m, d9_l7, i_s6_l7, a9_l7, c9_l7) => loopN (wagonnumber_Repairs_L7 p0) m (d9_l7, i_s6_l7) = some d7 ∧ Ev [] w w' ∧ MS w' [blk a9_l7, [b4], M] ∧ FR w.heap.size [blk a9_l7, [b4]] ∧ OwnS eStr 9 w' (fl [blk a9_l7, [b4], M]) a9_l7 c9_l7 d9_l7 ∧ w'.heap[b4]? = some (.cells #[.slice a9_l7 (d9_l7).length c9_l7] 29 (0, 0))) (fun s => s.1) (m7, ([] : List (List UInt8)), 0, none, 0) ⟨rfl, rfl, rfl, rfl, trivial⟩ ⟨hd7, hev, hms, hfr, ho8, hb4⟩ ?_)
 rintro ⟨m7, d9_l7, i_s6_l7, a9_l7, c9_l7⟩ J wl7 ⟨hn7, hev, hms, hfr, hj9_l7, hb4⟩
 rcases m7 with _ | m7
 · exact (loopN_zero hn7).elim
 obtain ⟨t7, h, hn7⟩ := bind_some hn7
 refine c_seq ?_
 refine c_sp ?_
 refine x_pure 2 [(14, Vi i_s6_l7), (15, .bool (decide (i_s6_l7 < 12)))] _ _ _ (by kernel_rfl) ?_
 refine x_ek ?_
 refine c_norm [(0, Vs p0), (4, Vp b4 0), (5, (.func (.func 24) #[] #[Vp b4 0])), (6, Vi i_s6_l7), (15, .bool (decide (i_s6_l7 < 12)))] ⟨rfl, rfl, rfl, rfl, rfl, trivial⟩ (fun J => ?_)
 refine c_cond (decide (i_s6_l7 < 12)) rfl (fun hb => ?_) (fun hb => ?_)
 · replace h := ite_t hb h
   refine c_skip ?_
   refine k_then ?_
   refine c_seq ?_
   refine c_block ?_
   refine c_seq ?_
   refine c_sp ?_
   refine x_pure 1 [(7, .int .u8 48)] _ _ _ (by kernel_rfl) ?_
   refine x_ek ?_
   refine c_block ?_
   obtain ⟨d12, hd12, h12⟩ := bind_some h
   obtain ⟨m12, hd12⟩ := loop_some hd12
   refine c_loop (loop_rule hmx (σ := Nat × (List (List UInt8)) × Int × Option Addr × Nat) (fun s => match s with | (_, d9_l12, v_d_s7_l12, a9_l12, c9_l12) => [(0, Vs p0), (4, Vp b4 0), (5, (.func (.func 24) #[] #[Vp b4 0])), (6, Vi i_s6_l7), (7, .int .u8 v_d_s7_l12)]) (fun s w' => match s with | (m, d9_l12, v_d_s7_l12, a9_l12, c9_l12) => loopN (wagonnumber_Repairs_L12 p0 i_s6_l7) m (d9_l12, v_d_s7_l12) = some d12 ∧ Ev [] w w' ∧ MS w' [blk a9_l12, [b4], M] ∧ FR w.heap.size [blk a9_l12, [b4]] ∧ OwnS eStr 9 w' (fl [blk a9_l12, [b4], M]) a9_l12 c9_l12 d9_l12 ∧ w'.heap[b4]? = some (.cells #[.slice a9_l12 (d9_l12).length c9_l12] 29 (0, 0))) (fun s => s.1) (m12, d9_l7, 48, a9_l7, c9_l7) ⟨rfl, rfl, rfl, rfl, rfl, trivial⟩ ⟨hd12, hev, hms, hfr, hj9_l7, hb4⟩ ?_)
   rintro ⟨m12, d9_l12, v_d_s7_l12, a9_l12, c9_l12⟩ J wl12 ⟨hn12, hev, hms, hfr, hj9_l7, hb4⟩
   rcases m12 with _ | m12
   · exact (loopN_zero hn12).elim
   obtain ⟨t12, h, hn12⟩ := bind_some hn12
   refine c_seq ?_
   refine c_sp ?_
   refine x_pure 2 [(18, .int .u8 v_d_s7_l12), (19, .bool (decide (v_d_s7_l12 ≤ 57)))] _ _ _ (by kernel_rfl) ?_
   refine x_ek ?_
   refine c_norm [(0, Vs p0), (4, Vp b4 0), (5, (.func (.func 24) #[] #[Vp b4 0])), (6, Vi i_s6_l7), (7, .int .u8 v_d_s7_l12), (19, .bool (decide (v_d_s7_l12 ≤ 57)))] ⟨rfl, rfl, rfl, rfl, rfl, rfl, trivial⟩ (fun J => ?_)
   refine c_cond (decide (v_d_s7_l12 ≤ 57)) rfl (fun hb => ?_) (fun hb => ?_)
   · replace h := ite_t hb h
     refine c_skip ?_
     refine k_then ?_
     refine c_seq ?_
     refine c_block ?_
     refine c_sp ?_
     refine x_pure 3 [(22, .int .u8 v_d_s7_l12), (23, Vs p0), (24, Vi i_s6_l7)] _ _ _ (by kernel_rfl) ?_
     obtain ⟨x14, hx14, h⟩ := bind_some h
     refine x_index (xv := Vs p0) (yv := Vi i_s6_l7) (.int .u8 x14) rfl rfl rfl rfl (reads_sindex tstr9 hx14) ?_
     refine x_pure 1 [(26, .bool (v_d_s7_l12 != x14))] _ _ _ (by kernel_rfl) ?_
     refine x_ek ?_
     refine c_cond (v_d_s7_l12 != x14) rfl (fun hb => ?_) (fun hb => ?_)
     · replace h := ite_t hb h
       refine c_sp ?_
       refine x_pure 1 [(27, Vs p0)] _ _ _ (by kernel_rfl) ?_
       have hg := guard_l h
       replace h := guard_r h
       obtain ⟨a15, c15, w15, hr15, he15, hn15, hw15⟩ := own_ofS (P := Try.prog) tstr9 tuns26 tint5 wl12 p0 hg
       refine x_convert (xv := Vs p0) _ w15 rfl rfl rfl hr15 ?_
       refine inl1 ?_
       have hst := Stp.push (ls := [blk a9_l12, [b4], M]) (l := blk a15) he15 (fun _ h => by cases h) (fun b hb => (hn15 b hb).1)
       replace hb4 := he15.box hb4 nn
       replace hj9_l7 := hj9_l7.step hst he15 nn2
       replace hms := hms.push he15 hn15
       replace hfr := hfr.push (fun b hb => Nat.le_trans hev.size (hn15 b hb).1)
       replace hev := hev.ext he15
       have ho15 := hw15 (fl [blk a15, blk a9_l12, [b4], M])
       clear hw15
       refine x_pure 1 [(8, .slice a15 ((toB p0)).length c15)] _ _ _ (by kernel_rfl) ?_
       refine x_ek ?_
       refine c_sp ?_
       refine x_pure 3 [(29, .slice a15 ((toB p0)).length c15), (30, Vi i_s6_l7), (31, .int .u8 v_d_s7_l12)] _ _ _ (by kernel_rfl) ?_
       obtain ⟨x18, hx18, h⟩ := bind_some h
       obtain ⟨g18, cs18, ha, hr18, hc18, hR⟩ := own_indexM (Mo := []) tsl26 ho15 hx18
       subst ha
       obtain rfl := hR
       refine x_indexAddr (xv := .slice (Ad g18 0) ((toB p0)).length c15) (yv := Vi i_s6_l7) (.pointer (some ⟨g18, (Int.toNat i_s6_l7) * (eInt .u8).n, none⟩)) rfl rfl rfl rfl hr18 ?_
       obtain ⟨w21, hr21, he21, ho21⟩ := own_storeM (y := v_d_s7_l12) 0 (.int .u8 v_d_s7_l12) tcell5 ho15 (mem_flat 0 rfl _ mem1) hx18 rfl rfl (fun _ _ _ hR => set_int hR)
       refine x_store w21 (xv := .pointer (some ⟨g18, (Int.toNat i_s6_l7) * (eInt .u8).n, none⟩)) (yv := .int .u8 v_d_s7_l12) rfl rfl rfl rfl hr21 ?_
       refine inl1 ?_
       have hst := Stp.ev' (ls := [blk (Ad g18 0), blk a9_l12, [b4], M]) he21 (mem_flat 0 rfl)
       replace hb4 := he21.box hb4 (hms.apart 2 0 rfl rfl rfl _ mem1)
       replace hj9_l7 := hj9_l7.step hst he21 (hms.apart 1 0 rfl rfl rfl)
       replace hms := hms.ev he21
       replace hev := hev.then he21 (fun b hb => .inr (hfr.at 0 rfl b hb))
       replace ho15 := ho21
       have hsl : (Value.slice (Ad g18 0) ((toB p0)).length c15) = (Value.slice (Ad g18 0) (((toB p0).set (Int.toNat i_s6_l7) v_d_s7_l12)).length c15) := by first | (rw [List.length_set]; done) | simp only [List.length_set]
       try rw [hsl]
       clear hsl
       refine x_ek ?_
       refine c_norm [(0, Vs p0), (4, Vp b4 0), (5, (.func (.func 24) #[] #[Vp b4 0])), (6, Vi i_s6_l7), (7, .int .u8 v_d_s7_l12), (8, .slice (Ad g18 0) (((toB p0).set (Int.toNat i_s6_l7) v_d_s7_l12)).length c15)] ⟨rfl, rfl, rfl, rfl, rfl, rfl, trivial⟩ (fun J => ?_)
       refine c_plain ?_
       refine x_pure 2 [(33, (.func (.func 24) #[] #[Vp b4 0])), (34, .slice (Ad g18 0) (((toB p0).set (Int.toNat i_s6_l7) v_d_s7_l12)).length c15)] _ _ _ (by kernel_rfl) ?_
       obtain ⟨x23, hx, h⟩ := bind_some h
       have hpk : MS w21 ([[b4], blk a9_l12] ++ [M]) := hms.pick [some 2, some 1, some 3] _ rfl
       have hsb0 : ∀ x ∈ fl ([[b4], blk a9_l12] ++ [M]), x ∈ fl [blk (Ad g18 0), blk a9_l12, [b4], M] := pick_sub [some 2, some 1, some 3] _ rfl
       have hsb : ∀ x ∈ fl ([[b4], blk a9_l12] ++ [(fl [M])]), x ∈ fl [blk (Ad g18 0), blk a9_l12, [b4], M] := fun x hx => hsb0 x (fl_unfold x hx)
       have hcall := wagonnumber_Repairs_1_w (Ad g18 0) c15 ((toB p0).set (Int.toNat i_s6_l7) v_d_s7_l12) b4 a9_l12 c9_l12 d9_l12 _ w21 (fl [M]) (hpk.fold (P := [[b4], blk a9_l12])) (ho15.ro hsb (fun b hb hb2 => pick_out hms 0 rfl [some 2, some 1, some 3] ([[b4], blk a9_l12] ++ [M]) rfl rfl b hb (fl_unfold b hb2))) (hj9_l7.sub hsb) hb4 hx
       refine x_call 24 #[] #[Vp b4 0] [.slice (Ad g18 0) (((toB p0).set (Int.toNat i_s6_l7) v_d_s7_l12)).length c15, Vp b4 0] _ rfl rfl rfl rfl hcall ?_
       rintro v w24 ⟨a0_24, c0_24, rfl, he24, hp24_0, hp24_1, hmn24, hfn24, hnp24⟩
       clear hcall hx
       refine inl1 ?_
       have hpk2 : MS w21 ([[b4], blk a9_l12] ++ [blk (Ad g18 0), M]) := hms.pick [some 2, some 1, some 0, some 3] _ rfl
       have hsb2 : ∀ x ∈ fl ([[b4], blk a9_l12] ++ [blk (Ad g18 0), M]), x ∈ fl [blk (Ad g18 0), blk a9_l12, [b4], M] := pick_sub [some 2, some 1, some 0, some 3] _ rfl
       have hst0 := Stp.call (LS := [blk (Ad g18 0), blk a9_l12, [b4], M]) (res := []) (par := [[b4], blk a0_24]) (R := [blk (Ad g18 0), M]) he24 (fun b hb => hsb2 b (fl_left' (P := [[b4], blk a9_l12]) b hb)) hfn24 hnp24 (fun x hx => hsb2 x (fl_right' (P := [[b4], blk a9_l12]) x hx))
       have hsn : ∀ x ∈ fl [blk (Ad g18 0), blk a0_24, [b4], M], x ∈ fl ([] ++ ([[b4], blk a0_24] ++ [blk (Ad g18 0), M])) := pick_sub [some 2, some 1, some 0, some 3] _ rfl
       have hst := hst0.res hsn
       replace ho15 := ho15.step hst he24 (MS.outs (P := [[b4], blk a9_l12]) hpk2 0 rfl)
       replace hms : MS w24 [blk (Ad g18 0), blk a0_24, [b4], M] := (MS.call (P := [[b4], blk a9_l12]) (R := [blk (Ad g18 0), M]) (res := []) (par := [[b4], blk a0_24]) hpk2 he24 hmn24 hfn24 hnp24).pick [some 2, some 1, some 0, some 3] _ rfl
       have hPf : ∀ b ∈ fl [[b4], blk a9_l12], w.heap.size ≤ b := FR.mem (ls := [[b4], blk a9_l12]) (hfr.pick [some 2, some 1] _ rfl)
       have hfr2 : FR w.heap.size [blk (Ad g18 0), blk a0_24, [b4]] := (FR.cons (hfr.at 0 rfl) (FR.cons (fun b hb => (hnp24.at 1 rfl b hb).elim (fun h => hPf b h) (fun h => Nat.le_trans hev.size h)) (FR.cons (fun b hb => (hnp24.at 0 rfl b hb).elim (fun h => hPf b h) (fun h => Nat.le_trans hev.size h)) (FR.nil _))))
       replace hev := hev.then he24 (fun b hb => .inr (hPf b hb))
       replace hfr := hfr2
       clear hfr2
       replace hb4 := hp24_0
       replace hj9_l7 := OwnS.plain (M' := fl [blk (Ad g18 0), blk a0_24, [b4], M]) plain_str hp24_1
       clear hpk hsb hsb0 hpk2 hsb2 hst0 hsn hst
       refine x_end rfl ?_
       refine k_block ?_
       refine k_then ?_
       refine c_plain ?_
       refine x_pure 3 [(20, .int .u8 v_d_s7_l12), (21, .int .u8 (IntKind.u8.wrap (v_d_s7_l12 + 1))), (7, .int .u8 (IntKind.u8.wrap (v_d_s7_l12 + 1)))] _ _ _ (by kernel_rfl) ?_
       refine x_end rfl ?_
       have hx := some_inj h
       subst hx
       have hpk : MS w24 [blk a0_24, [b4], M] := hms.pick [some 1, some 2, some 3] _ rfl
       have hsu : ∀ x ∈ fl [blk a0_24, [b4], M], x ∈ fl [blk (Ad g18 0), blk a0_24, [b4], M] := pick_sub [some 1, some 2, some 3] _ rfl
       replace hj9_l7 := hj9_l7.sub hsu
       replace hms := hpk
       replace hfr : FR w.heap.size [blk a0_24, [b4]] := hfr.pick [some 1, some 2] _ rfl
       clear hpk hsu
       exact k_then ⟨(m12, x23, IntKind.u8.wrap (v_d_s7_l12 + 1), a0_24, c0_24), ⟨rfl, rfl, rfl, rfl, rfl, trivial⟩, ⟨hn12, hev, hms, hfr, hj9_l7, hb4⟩, Nat.lt_succ_self _⟩
     replace h := ite_f hb h
     refine c_skip ?_
     refine k_block ?_
     refine k_then ?_
     refine c_plain ?_
     refine x_pure 3 [(20, .int .u8 v_d_s7_l12), (21, .int .u8 (IntKind.u8.wrap (v_d_s7_l12 + 1))), (7, .int .u8 (IntKind.u8.wrap (v_d_s7_l12 + 1)))] _ _ _ (by kernel_rfl) ?_
     refine x_end rfl ?_
     have hx := some_inj h
     subst hx
     exact k_then ⟨(m12, d9_l12, IntKind.u8.wrap (v_d_s7_l12 + 1), a9_l12, c9_l12), ⟨rfl, rfl, rfl, rfl, rfl, trivial⟩, ⟨hn12, hev, hms, hfr, hj9_l7, hb4⟩, Nat.lt_succ_self _⟩
   replace h := ite_f hb h
   refine c_exit ?_
   refine k_then_exit ?_
   have hx := some_inj h
   subst hx
   have hy := some_inj hn12
   subst hy
   replace h := h12
   refine k_then_exit ?_
   refine k_block_in ?_
   refine k_then ?_
   refine c_norm [(0, Vs p0), (4, Vp b4 0), (5, (.func (.func 24) #[] #[Vp b4 0])), (6, Vi i_s6_l7)] ⟨rfl, rfl, rfl, rfl, trivial⟩ (fun J => ?_)
   refine c_join (σ := Bool) (fun s => match s with | t47__s47_j25 => [(0, Vs p0), (4, Vp b4 0), (5, (.func (.func 24) #[] #[Vp b4 0])), (6, Vi i_s6_l7), (47, .bool t47__s47_j25)]) (fun s w' => match s with | t47__s47_j25 => wagonnumber_Repairs_J25 p0 i_s6_l7 d9_l12 t47__s47_j25 = some t7 ∧ Ev [] w w' ∧ MS w' [blk a9_l12, [b4], M] ∧ FR w.heap.size [blk a9_l12, [b4]] ∧ OwnS eStr 9 w' (fl [blk a9_l12, [b4], M]) a9_l12 c9_l12 d9_l12 ∧ w'.heap[b4]? = some (.cells #[.slice a9_l12 (d9_l12).length c9_l12] 29 (0, 0))) ?_ ?_
   · refine c_drawn [] [(0, false), (1, false), (2, false), (3, false), (4, false), (5, false), (6, false), (7, false), (8, false), (9, false), (10, false), (11, false)] _ (by kernel_rfl) rfl ?_
     have hst := Stp.ext (ls := [blk a9_l12, [b4], M]) (Ev.drew wl12)
     replace hb4 := (Ev.drew wl12).box hb4 nn
     replace hj9_l7 := hj9_l7.step hst (Ev.drew wl12) nn2
     replace hms := hms.ev (Ev.drew wl12)
     replace hev := hev.ext (Ev.drew wl12)
     refine x_pure 3 [(36, Vi i_s6_l7), (37, .bool (decide (i_s6_l7 < 11))), (38, .bool (decide (i_s6_l7 < 11)))] _ _ _ (by kernel_rfl) ?_
     refine x_split 38 (decide (i_s6_l7 < 11)) rfl (fun hb => ?_) (fun hb => ?_)
     · replace h := ite_t hb h
       refine x_pure 2 [(39, Vs p0), (40, Vi i_s6_l7)] _ _ _ (by kernel_rfl) ?_
       obtain ⟨x26, hx26, h⟩ := bind_some h
       refine x_index (xv := Vs p0) (yv := Vi i_s6_l7) (.int .u8 x26) rfl rfl rfl rfl (reads_sindex tstr9 hx26) ?_
       refine x_pure 3 [(42, Vs p0), (43, Vi i_s6_l7), (44, Vi (IntKind.i64.wrap (i_s6_l7 + 1)))] _ _ _ (by kernel_rfl) ?_
       obtain ⟨x27, hx27, h⟩ := bind_some h
       refine x_index (xv := Vs p0) (yv := Vi (IntKind.i64.wrap (i_s6_l7 + 1))) (.int .u8 x27) rfl rfl rfl rfl (reads_sindex tstr9 hx27) ?_
       refine x_pure 2 [(46, .bool (x26 != x27)), (47, .bool (x26 != x27))] _ _ _ (by kernel_rfl) ?_
       refine x_end rfl ?_
       exact k_then ⟨x26 != x27, ⟨rfl, rfl, rfl, rfl, rfl, trivial⟩, h, hev, hms, hfr, hj9_l7, hb4⟩
     replace h := ite_f hb h
     refine x_pure 9 [(39, undef), (40, undef), (41, undef), (42, undef), (43, undef), (44, undef), (45, undef), (46, undef), (47, .bool false)] _ _ _ (by kernel_rfl) ?_
     refine x_end rfl ?_
     exact k_then ⟨false, ⟨rfl, rfl, rfl, rfl, rfl, trivial⟩, h, hev, hms, hfr, hj9_l7, hb4⟩
   rintro t47__s47_j25 J wj25 ⟨h, hev, hms, hfr, hj9_l7, hb4⟩
   refine c_cond t47__s47_j25 rfl (fun hb => ?_) (fun hb => ?_)
   · replace h := ite_t hb h
     refine c_sp ?_
     refine x_pure 1 [(48, Vs p0)] _ _ _ (by kernel_rfl) ?_
     have hg := guard_l h
     replace h := guard_r h
     obtain ⟨a28, c28, w28, hr28, he28, hn28, hw28⟩ := own_ofS (P := Try.prog) tstr9 tuns26 tint5 wj25 p0 hg
     refine x_convert (xv := Vs p0) _ w28 rfl rfl rfl hr28 ?_
     refine inl1 ?_
     have hst := Stp.push (ls := [blk a9_l12, [b4], M]) (l := blk a28) he28 (fun _ h => by cases h) (fun b hb => (hn28 b hb).1)
     replace hb4 := he28.box hb4 nn
     replace hj9_l7 := hj9_l7.step hst he28 nn2
     replace hms := hms.push he28 hn28
     replace hfr := hfr.push (fun b hb => Nat.le_trans hev.size (hn28 b hb).1)
     replace hev := hev.ext he28
     have ho28 := hw28 (fl [blk a28, blk a9_l12, [b4], M])
     clear hw28
     refine x_pure 1 [(9, .slice a28 ((toB p0)).length c28)] _ _ _ (by kernel_rfl) ?_
     refine x_ek ?_
     refine c_norm [(0, Vs p0), (4, Vp b4 0), (5, (.func (.func 24) #[] #[Vp b4 0])), (6, Vi i_s6_l7), (9, .slice a28 ((toB p0)).length c28)] ⟨rfl, rfl, rfl, rfl, rfl, trivial⟩ (fun J => ?_)
     refine c_seq ?_
     refine c_drawn (blk a28) [(0, true), (1, true), (2, false), (3, false), (4, false), (5, true), (6, true), (7, true), (8, true), (9, true), (10, true), (11, true), (12, true), (13, true), (14, true), (15, false), (16, true), (17, true)] _ (by kernel_rfl) rfl ?_
     have hst := Stp.ext (ls := [blk a28, blk a9_l12, [b4], M]) (Ev.drew w28)
     replace hb4 := (Ev.drew w28).box hb4 nn
     replace hj9_l7 := hj9_l7.step hst (Ev.drew w28) nn2
     replace ho28 := ho28.step hst (Ev.drew w28) nn2
     replace hms := hms.ev (Ev.drew w28)
     replace hev := hev.ext (Ev.drew w28)
     refine x_pure 8 [(50, .slice a28 ((toB p0)).length c28), (51, Vi i_s6_l7), (52, .slice a28 ((toB p0)).length c28), (53, Vi i_s6_l7), (54, Vi (IntKind.i64.wrap (i_s6_l7 + 1))), (55, .slice a28 ((toB p0)).length c28), (56, Vi i_s6_l7), (57, Vi (IntKind.i64.wrap (i_s6_l7 + 1)))] _ _ _ (by kernel_rfl) ?_
     obtain ⟨x31, hx31, h⟩ := bind_some h
     obtain ⟨g31, cs31, ha, hr31, hc31, hR⟩ := own_indexM (Mo := []) tsl26 ho28 hx31
     subst ha
     obtain rfl := hR
     refine x_indexAddr (xv := .slice (Ad g31 0) ((toB p0)).length c28) (yv := Vi (IntKind.i64.wrap (i_s6_l7 + 1))) (.pointer (some ⟨g31, (Int.toNat (IntKind.i64.wrap (i_s6_l7 + 1))) * (eInt .u8).n, none⟩)) rfl rfl rfl rfl hr31 ?_
     refine x_load (xv := .pointer (some ⟨g31, (Int.toNat (IntKind.i64.wrap (i_s6_l7 + 1))) * (eInt .u8).n, none⟩)) (.int .u8 x31) rfl rfl rfl (reads_cell0 tcell5 hc31 (fun _ h => by cases h)) ?_
     refine x_pure 2 [(60, .slice (Ad g31 0) ((toB p0)).length c28), (61, Vi i_s6_l7)] _ _ _ (by kernel_rfl) ?_
     obtain ⟨x34, hx34, h⟩ := bind_some h
     obtain ⟨g34, cs34, ha, hr34, hc34, hR⟩ := own_indexM (Mo := []) tsl26 ho28 hx34
     have hg : g31 = g34 := by cases ha; rfl
     subst hg
     obtain rfl := hR
     refine x_indexAddr (xv := .slice (Ad g31 0) ((toB p0)).length c28) (yv := Vi i_s6_l7) (.pointer (some ⟨g31, (Int.toNat i_s6_l7) * (eInt .u8).n, none⟩)) rfl rfl rfl rfl hr34 ?_
     refine x_load (xv := .pointer (some ⟨g31, (Int.toNat i_s6_l7) * (eInt .u8).n, none⟩)) (.int .u8 x34) rfl rfl rfl (reads_cell0 tcell5 hc34 (fun _ h => by cases h)) ?_
     obtain ⟨x37, hx37, h⟩ := bind_some h
     obtain ⟨g37, cs37, ha, hr37, hc37, hR⟩ := own_indexM (Mo := []) tsl26 ho28 hx37
     have hg : g31 = g37 := by cases ha; rfl
     subst hg
     obtain rfl := hR
     refine x_indexAddr (xv := .slice (Ad g31 0) ((toB p0)).length c28) (yv := Vi i_s6_l7) (.pointer (some ⟨g31, (Int.toNat i_s6_l7) * (eInt .u8).n, none⟩)) rfl rfl rfl rfl hr37 ?_
     obtain ⟨w40, hr40, he40, ho40⟩ := own_storeM (y := x31) 0 (.int .u8 x31) tcell5 ho28 (mem_flat 0 rfl _ mem1) hx37 rfl rfl (fun _ _ _ hR => set_int hR)
     refine x_store w40 (xv := .pointer (some ⟨g31, (Int.toNat i_s6_l7) * (eInt .u8).n, none⟩)) (yv := .int .u8 x31) rfl rfl rfl rfl hr40 ?_
     refine ⟨.inr he40, ?_⟩
     have hst := Stp.ev' (ls := [blk (Ad g31 0), blk a9_l12, [b4], M]) he40 (mem_flat 0 rfl)
     replace hb4 := he40.box hb4 (hms.apart 2 0 rfl rfl rfl _ mem1)
     replace hj9_l7 := hj9_l7.step hst he40 (hms.apart 1 0 rfl rfl rfl)
     replace hms := hms.ev he40
     replace hev := hev.then he40 (fun b hb => .inr (hfr.at 0 rfl b hb))
     replace ho28 := ho40
     have hsl : (Value.slice (Ad g31 0) ((toB p0)).length c28) = (Value.slice (Ad g31 0) (((toB p0).set (Int.toNat i_s6_l7) x31)).length c28) := by first | (rw [List.length_set]; done) | simp only [List.length_set]
     try rw [hsl]
     clear hsl
     obtain ⟨x42, hx42, h⟩ := bind_some h
     obtain ⟨g42, cs42, ha, hr42, hc42, hR⟩ := own_indexM (Mo := []) tsl26 ho28 hx42
     have hg : g31 = g42 := by cases ha; rfl
     subst hg
     obtain rfl := hR
     refine x_indexAddr (xv := .slice (Ad g31 0) (((toB p0).set (Int.toNat i_s6_l7) x31)).length c28) (yv := Vi (IntKind.i64.wrap (i_s6_l7 + 1))) (.pointer (some ⟨g31, (Int.toNat (IntKind.i64.wrap (i_s6_l7 + 1))) * (eInt .u8).n, none⟩)) rfl rfl rfl rfl hr42 ?_
     obtain ⟨w45, hr45, he45, ho45⟩ := own_storeM (y := x34) 0 (.int .u8 x34) tcell5 ho28 (mem_flat 0 rfl _ mem1) hx42 rfl rfl (fun _ _ _ hR => set_int hR)
     refine x_store w45 (xv := .pointer (some ⟨g31, (Int.toNat (IntKind.i64.wrap (i_s6_l7 + 1))) * (eInt .u8).n, none⟩)) (yv := .int .u8 x34) rfl rfl rfl rfl hr45 ?_
     refine inl1 ?_
     have hst := Stp.ev' (ls := [blk (Ad g31 0), blk a9_l12, [b4], M]) he45 (mem_flat 0 rfl)
     replace hb4 := he45.box hb4 (hms.apart 2 0 rfl rfl rfl _ mem1)
     replace hj9_l7 := hj9_l7.step hst he45 (hms.apart 1 0 rfl rfl rfl)
     replace hms := hms.ev he45
     replace hev := hev.then he45 (fun b hb => .inr (hfr.at 0 rfl b hb))
     replace ho28 := ho45
     have hsl : (Value.slice (Ad g31 0) (((toB p0).set (Int.toNat i_s6_l7) x31)).length c28) = (Value.slice (Ad g31 0) ((((toB p0).set (Int.toNat i_s6_l7) x31).set (Int.toNat (IntKind.i64.wrap (i_s6_l7 + 1))) x34)).length c28) := by first | (rw [List.length_set]; done) | simp only [List.length_set]
     try rw [hsl]
     clear hsl
     refine x_ek ?_
     refine c_norm [(0, Vs p0), (4, Vp b4 0), (5, (.func (.func 24) #[] #[Vp b4 0])), (6, Vi i_s6_l7), (9, .slice (Ad g31 0) ((((toB p0).set (Int.toNat i_s6_l7) x31).set (Int.toNat (IntKind.i64.wrap (i_s6_l7 + 1))) x34)).length c28)] ⟨rfl, rfl, rfl, rfl, rfl, trivial⟩ (fun J => ?_)
     refine c_plain ?_
     refine x_pure 2 [(66, (.func (.func 24) #[] #[Vp b4 0])), (67, .slice (Ad g31 0) ((((toB p0).set (Int.toNat i_s6_l7) x31).set (Int.toNat (IntKind.i64.wrap (i_s6_l7 + 1))) x34)).length c28)] _ _ _ (by kernel_rfl) ?_
     obtain ⟨x47, hx, h⟩ := bind_some h
     have hpk : MS w45 ([[b4], blk a9_l12] ++ [M]) := hms.pick [some 2, some 1, some 3] _ rfl
     have hsb0 : ∀ x ∈ fl ([[b4], blk a9_l12] ++ [M]), x ∈ fl [blk (Ad g31 0), blk a9_l12, [b4], M] := pick_sub [some 2, some 1, some 3] _ rfl
     have hsb : ∀ x ∈ fl ([[b4], blk a9_l12] ++ [(fl [M])]), x ∈ fl [blk (Ad g31 0), blk a9_l12, [b4], M] := fun x hx => hsb0 x (fl_unfold x hx)
     have hcall := wagonnumber_Repairs_1_w (Ad g31 0) c28 (((toB p0).set (Int.toNat i_s6_l7) x31).set (Int.toNat (IntKind.i64.wrap (i_s6_l7 + 1))) x34) b4 a9_l12 c9_l12 d9_l12 _ w45 (fl [M]) (hpk.fold (P := [[b4], blk a9_l12])) (ho28.ro hsb (fun b hb hb2 => pick_out hms 0 rfl [some 2, some 1, some 3] ([[b4], blk a9_l12] ++ [M]) rfl rfl b hb (fl_unfold b hb2))) (hj9_l7.sub hsb) hb4 hx
     refine x_call 24 #[] #[Vp b4 0] [.slice (Ad g31 0) ((((toB p0).set (Int.toNat i_s6_l7) x31).set (Int.toNat (IntKind.i64.wrap (i_s6_l7 + 1))) x34)).length c28, Vp b4 0] _ rfl rfl rfl rfl hcall ?_
     rintro v w48 ⟨a0_48, c0_48, rfl, he48, hp48_0, hp48_1, hmn48, hfn48, hnp48⟩
     clear hcall hx
     refine inl1 ?_
     have hpk2 : MS w45 ([[b4], blk a9_l12] ++ [blk (Ad g31 0), M]) := hms.pick [some 2, some 1, some 0, some 3] _ rfl
     have hsb2 : ∀ x ∈ fl ([[b4], blk a9_l12] ++ [blk (Ad g31 0), M]), x ∈ fl [blk (Ad g31 0), blk a9_l12, [b4], M] := pick_sub [some 2, some 1, some 0, some 3] _ rfl
     have hst0 := Stp.call (LS := [blk (Ad g31 0), blk a9_l12, [b4], M]) (res := []) (par := [[b4], blk a0_48]) (R := [blk (Ad g31 0), M]) he48 (fun b hb => hsb2 b (fl_left' (P := [[b4], blk a9_l12]) b hb)) hfn48 hnp48 (fun x hx => hsb2 x (fl_right' (P := [[b4], blk a9_l12]) x hx))
     have hsn : ∀ x ∈ fl [blk (Ad g31 0), blk a0_48, [b4], M], x ∈ fl ([] ++ ([[b4], blk a0_48] ++ [blk (Ad g31 0), M])) := pick_sub [some 2, some 1, some 0, some 3] _ rfl
     have hst := hst0.res hsn
     replace ho28 := ho28.step hst he48 (MS.outs (P := [[b4], blk a9_l12]) hpk2 0 rfl)
     replace hms : MS w48 [blk (Ad g31 0), blk a0_48, [b4], M] := (MS.call (P := [[b4], blk a9_l12]) (R := [blk (Ad g31 0), M]) (res := []) (par := [[b4], blk a0_48]) hpk2 he48 hmn48 hfn48 hnp48).pick [some 2, some 1, some 0, some 3] _ rfl
     have hPf : ∀ b ∈ fl [[b4], blk a9_l12], w.heap.size ≤ b := FR.mem (ls := [[b4], blk a9_l12]) (hfr.pick [some 2, some 1] _ rfl)
     have hfr2 : FR w.heap.size [blk (Ad g31 0), blk a0_48, [b4]] := (FR.cons (hfr.at 0 rfl) (FR.cons (fun b hb => (hnp48.at 1 rfl b hb).elim (fun h => hPf b h) (fun h => Nat.le_trans hev.size h)) (FR.cons (fun b hb => (hnp48.at 0 rfl b hb).elim (fun h => hPf b h) (fun h => Nat.le_trans hev.size h)) (FR.nil _))))
     replace hev := hev.then he48 (fun b hb => .inr (hPf b hb))
     replace hfr := hfr2
     clear hfr2
     replace hb4 := hp48_0
     replace hj9_l7 := OwnS.plain (M' := fl [blk (Ad g31 0), blk a0_48, [b4], M]) plain_str hp48_1
     clear hpk hsb hsb0 hpk2 hsb2 hst0 hsn hst
     refine x_end rfl ?_
     refine k_block ?_
     refine k_then ?_
     refine c_plain ?_
     refine x_pure 3 [(16, Vi i_s6_l7), (17, Vi (IntKind.i64.wrap (i_s6_l7 + 1))), (6, Vi (IntKind.i64.wrap (i_s6_l7 + 1)))] _ _ _ (by kernel_rfl) ?_
     refine x_end rfl ?_
     have hx := some_inj h
     subst hx
     have hpk : MS w48 [blk a0_48, [b4], M] := hms.pick [some 1, some 2, some 3] _ rfl
     have hsu : ∀ x ∈ fl [blk a0_48, [b4], M], x ∈ fl [blk (Ad g31 0), blk a0_48, [b4], M] := pick_sub [some 1, some 2, some 3] _ rfl
     replace hj9_l7 := hj9_l7.sub hsu
     replace hms := hpk
     replace hfr : FR w.heap.size [blk a0_48, [b4]] := hfr.pick [some 1, some 2] _ rfl
     clear hpk hsu
     exact k_then ⟨(m7, x47, IntKind.i64.wrap (i_s6_l7 + 1), a0_48, c0_48), ⟨rfl, rfl, rfl, rfl, trivial⟩, ⟨hn7, hev, hms, hfr, hj9_l7, hb4⟩, Nat.lt_succ_self _⟩
   replace h := ite_f hb h
   refine c_skip ?_
   refine k_block ?_
   refine k_then ?_
   refine c_norm [(0, Vs p0), (4, Vp b4 0), (5, (.func (.func 24) #[] #[Vp b4 0])), (6, Vi i_s6_l7)] ⟨rfl, rfl, rfl, rfl, trivial⟩ (fun J => ?_)
   refine c_plain ?_
   refine x_pure 3 [(16, Vi i_s6_l7), (17, Vi (IntKind.i64.wrap (i_s6_l7 + 1))), (6, Vi (IntKind.i64.wrap (i_s6_l7 + 1)))] _ _ _ (by kernel_rfl) ?_
   refine x_end rfl ?_
   have hx := some_inj h
   subst hx
   exact k_then ⟨(m7, d9_l12, IntKind.i64.wrap (i_s6_l7 + 1), a9_l12, c9_l12), ⟨rfl, rfl, rfl, rfl, trivial⟩, ⟨hn7, hev, hms, hfr, hj9_l7, hb4⟩, Nat.lt_succ_self _⟩
 replace h := ite_f hb h
 refine c_exit ?_
 refine k_then_exit ?_
 have hx := some_inj h
 subst hx
 have hy := some_inj hn7
 subst hy
 replace h := h7
 refine k_then_exit ?_
 refine k_block_in ?_
 refine k_then ?_
 refine c_norm [(4, Vp b4 0)] ⟨rfl, trivial⟩ (fun J => ?_)
 refine c_sp ?_
 refine x_load (xv := Vp b4 0) (.slice a9_l7 (d9_l7).length c9_l7) rfl rfl rfl (reads_box tcell29 hb4 nn 0 _ rfl) ?_
 have hg := guard_l h
 replace h := guard_r h
 have hcall := sortS_w (P := Try.prog) LsortS (f := 25) rfl ⟨_, Try.func25, by kernel_rfl, rfl⟩ (T := 9) hj9_l7 hg
 refine x_call 25 #[] #[] [.slice a9_l7 (d9_l7).length c9_l7] _ rfl rfl rfl rfl hcall ?_
 rintro v w49 ⟨rfl, he49, hln49, hw49⟩
 clear hcall
 refine inl1 ?_
 replace hb4 := he49.box hb4 (hms.apart 1 0 rfl rfl rfl _ mem1)
 replace hms := hms.ev he49
 replace hev := hev.then he49 (fun b hb => .inr (hfr.at 0 rfl b hb))
 replace hj9_l7 := hw49 (fl [blk a9_l7, [b4], M])
 have hsl : (Value.slice a9_l7 (d9_l7).length c9_l7) = (Value.slice a9_l7 ((sortS d9_l7)).length c9_l7) := by first | (rw [hln49]; done) | simp only [hln49]
 rw [hsl] at hb4
 try rw [hsl]
 clear hsl
 refine x_ek ?_
 refine c_sp ?_
 refine x_load (xv := Vp b4 0) (.slice a9_l7 ((sortS d9_l7)).length c9_l7) rfl rfl rfl (reads_box tcell29 hb4 nn 0 _ rfl) ?_
 have hcall := compactS_w (P := Try.prog) LcompactS (f := 26) rfl ⟨_, Try.func26, by kernel_rfl, rfl⟩ (T := 9) hj9_l7
 refine x_call 26 #[] #[] [.slice a9_l7 ((sortS d9_l7)).length c9_l7] _ rfl rfl rfl rfl hcall ?_
 rintro v w50 ⟨rfl, he50, hw50⟩
 clear hcall
 refine inl1 ?_
 replace hb4 := he50.box hb4 (hms.apart 1 0 rfl rfl rfl _ mem1)
 replace hms := hms.ev he50
 replace hev := hev.then he50 (fun b hb => .inr (hfr.at 0 rfl b hb))
 replace hj9_l7 := hw50 (fl [blk a9_l7, [b4], M])
 refine x_pure 2 [(2, .slice a9_l7 ((Go.Lib.compact (sortS d9_l7))).length c9_l7), (3, Vi 0)] _ _ _ (by kernel_rfl) ?_
 refine x_ek ?_
 refine c_ret ?_
 refine r_ret (r_vals [.slice a9_l7 ((Go.Lib.compact (sortS d9_l7))).length c9_l7, Vi 0] ⟨rfl, rfl, trivial⟩ ?_)
 have hx := some_inj h
 subst hx
 have hmr : MS w50 [blk a9_l7, M] := hms.pick [some 0, some 2] _ rfl
 have hsu : ∀ x ∈ fl [blk a9_l7, M], x ∈ fl [blk a9_l7, [b4], M] := pick_sub [some 0, some 2] _ rfl
 have hfe : FR w.heap.size [blk a9_l7] := hfr.pick [some 0] _ rfl
 exact ⟨a9_l7, c9_l7, rfl, hev, hmr, hfe, hj9_l7.sub hsu⟩
def wagonnumber_Digit (p0 : List UInt8) : Option (Int × Int) :=
((wagonnumber_digits p0 11).bind fun x1 =>
(if (!x1) = true then
some (0, 11)
else
((wagonnumber_check p0).bind fun x3 =>
some (x3, 0))))

theorem wagonnumber_Digit_w (p0 : List UInt8) (r : Int × Int) (w : World) (h : wagonnumber_Digit p0 = some r) : CallVC Try.prog 27 [Vs p0] w fun v w' => v = .tuple #[Vi r.1, Vi r.2] ∧ Ev [] w w' := by
 refine calls_vc hmx Try.func27 (by kernel_rfl) rfl (rs := [.tmp 2, .tmp 3]) rfl (by kernel_rfl) (args := [Vs p0]) rfl ?_
 have hev : Ev [] w w := Ev.refl _ _
 have hms : MS w [[]] := ⟨List.pairwise_singleton _ _, fun l hl b hb => by simp only [List.mem_singleton] at hl; subst hl; cases hb⟩
 have hfr : FR w.heap.size [] := FR.nil _
 refine c_sp ?_
 refine x_pure 2 [(2, Vi 0), (3, Vi 0)] _ _ _ (by kernel_rfl) ?_
 refine x_ek ?_
 refine c_seq ?_
 refine c_sp ?_
 refine x_pure 1 [(4, Vs p0)] _ _ _ (by kernel_rfl) ?_
 obtain ⟨x1, hx, h⟩ := bind_some h
 have hcall := wagonnumber_digits_w p0 11 _ w hx
 refine x_call 22 #[] #[] [Vs p0, Vi 11] _ rfl rfl rfl rfl hcall ?_
 rintro v w2 ⟨rfl, he2⟩
 clear hcall hx
 refine inl1 ?_
 replace hms := hms.ev he2
 replace hev := hev.ext he2
 refine x_pure 1 [(6, .bool (!x1))] _ _ _ (by kernel_rfl) ?_
 refine x_ek ?_
 refine c_cond (!x1) rfl (fun hb => ?_) (fun hb => ?_)
 · replace h := ite_t hb h
   refine c_sp ?_
   refine x_pure 2 [(2, Vi 0), (3, Vi 11)] _ _ _ (by kernel_rfl) ?_
   refine x_ek ?_
   refine c_ret ?_
   refine k_then_ret ?_
   refine r_ret (r_vals [Vi 0, Vi 11] ⟨rfl, rfl, trivial⟩ ?_)
   have hx := some_inj h
   subst hx
   exact ⟨rfl, hev⟩
 replace h := ite_f hb h
 refine c_skip ?_
 refine k_then ?_
 refine c_sp ?_
 refine x_pure 1 [(7, Vs p0)] _ _ _ (by kernel_rfl) ?_
 obtain ⟨x3, hx, h⟩ := bind_some h
 have hcall := wagonnumber_check_w p0 _ w2 hx
 refine x_call 23 #[] #[] [Vs p0] _ rfl rfl rfl rfl hcall ?_
 rintro v w4 ⟨rfl, he4⟩
 clear hcall hx
 refine inl1 ?_
 replace hms := hms.ev he4
 replace hev := hev.ext he4
 refine x_pure 2 [(2, Vi x3), (3, Vi 0)] _ _ _ (by kernel_rfl) ?_
 refine x_ek ?_
 refine c_ret ?_
 refine r_ret (r_vals [Vi x3, Vi 0] ⟨rfl, rfl, trivial⟩ ?_)
 have hx := some_inj h
 subst hx
 exact ⟨rfl, hev⟩
def wagonnumber_Format (p0 : List UInt8) : Option ((List UInt8) × Int) :=
((wagonnumber_Valid p0).bind fun x2 =>
(if (x2 != 0) = true then
some (([] : List UInt8), x2)
else
(if 0 ≤ ((0 : Int) : Int) ∧ ((0 : Int) : Int) ≤ (2 : Int) ∧ (2 : Int) ≤ (p0.length : Int) then
(if ((p0.drop (Int.toNat (0 : Int))).take (Int.toNat 2 - Int.toNat (0 : Int))).length + ([32] : List UInt8).length ≤ 4294967296 then
(if 0 ≤ (2 : Int) ∧ (2 : Int) ≤ (4 : Int) ∧ (4 : Int) ≤ (p0.length : Int) then
(if (((p0.drop (Int.toNat (0 : Int))).take (Int.toNat 2 - Int.toNat (0 : Int))) ++ ([32] : List UInt8)).length + ((p0.drop (Int.toNat 2)).take (Int.toNat 4 - Int.toNat 2)).length ≤ 4294967296 then
(if ((((p0.drop (Int.toNat (0 : Int))).take (Int.toNat 2 - Int.toNat (0 : Int))) ++ ([32] : List UInt8)) ++ ((p0.drop (Int.toNat 2)).take (Int.toNat 4 - Int.toNat 2))).length + ([32] : List UInt8).length ≤ 4294967296 then
(if 0 ≤ (4 : Int) ∧ (4 : Int) ≤ (8 : Int) ∧ (8 : Int) ≤ (p0.length : Int) then
(if (((((p0.drop (Int.toNat (0 : Int))).take (Int.toNat 2 - Int.toNat (0 : Int))) ++ ([32] : List UInt8)) ++ ((p0.drop (Int.toNat 2)).take (Int.toNat 4 - Int.toNat 2))) ++ ([32] : List UInt8)).length + ((p0.drop (Int.toNat 4)).take (Int.toNat 8 - Int.toNat 4)).length ≤ 4294967296 then
(if ((((((p0.drop (Int.toNat (0 : Int))).take (Int.toNat 2 - Int.toNat (0 : Int))) ++ ([32] : List UInt8)) ++ ((p0.drop (Int.toNat 2)).take (Int.toNat 4 - Int.toNat 2))) ++ ([32] : List UInt8)) ++ ((p0.drop (Int.toNat 4)).take (Int.toNat 8 - Int.toNat 4))).length + ([32] : List UInt8).length ≤ 4294967296 then
(if 0 ≤ (8 : Int) ∧ (8 : Int) ≤ (11 : Int) ∧ (11 : Int) ≤ (p0.length : Int) then
(if (((((((p0.drop (Int.toNat (0 : Int))).take (Int.toNat 2 - Int.toNat (0 : Int))) ++ ([32] : List UInt8)) ++ ((p0.drop (Int.toNat 2)).take (Int.toNat 4 - Int.toNat 2))) ++ ([32] : List UInt8)) ++ ((p0.drop (Int.toNat 4)).take (Int.toNat 8 - Int.toNat 4))) ++ ([32] : List UInt8)).length + ((p0.drop (Int.toNat 8)).take (Int.toNat 11 - Int.toNat 8)).length ≤ 4294967296 then
(if ((((((((p0.drop (Int.toNat (0 : Int))).take (Int.toNat 2 - Int.toNat (0 : Int))) ++ ([32] : List UInt8)) ++ ((p0.drop (Int.toNat 2)).take (Int.toNat 4 - Int.toNat 2))) ++ ([32] : List UInt8)) ++ ((p0.drop (Int.toNat 4)).take (Int.toNat 8 - Int.toNat 4))) ++ ([32] : List UInt8)) ++ ((p0.drop (Int.toNat 8)).take (Int.toNat 11 - Int.toNat 8))).length + ([45] : List UInt8).length ≤ 4294967296 then
(if 0 ≤ (11 : Int) ∧ (11 : Int) ≤ ((p0.length : Int) : Int) ∧ ((p0.length : Int) : Int) ≤ (p0.length : Int) then
(if (((((((((p0.drop (Int.toNat (0 : Int))).take (Int.toNat 2 - Int.toNat (0 : Int))) ++ ([32] : List UInt8)) ++ ((p0.drop (Int.toNat 2)).take (Int.toNat 4 - Int.toNat 2))) ++ ([32] : List UInt8)) ++ ((p0.drop (Int.toNat 4)).take (Int.toNat 8 - Int.toNat 4))) ++ ([32] : List UInt8)) ++ ((p0.drop (Int.toNat 8)).take (Int.toNat 11 - Int.toNat 8))) ++ ([45] : List UInt8)).length + ((p0.drop (Int.toNat 11)).take (Int.toNat (p0.length : Int) - Int.toNat 11)).length ≤ 4294967296 then
some (((((((((((p0.drop (Int.toNat (0 : Int))).take (Int.toNat 2 - Int.toNat (0 : Int))) ++ ([32] : List UInt8)) ++ ((p0.drop (Int.toNat 2)).take (Int.toNat 4 - Int.toNat 2))) ++ ([32] : List UInt8)) ++ ((p0.drop (Int.toNat 4)).take (Int.toNat 8 - Int.toNat 4))) ++ ([32] : List UInt8)) ++ ((p0.drop (Int.toNat 8)).take (Int.toNat 11 - Int.toNat 8))) ++ ([45] : List UInt8)) ++ ((p0.drop (Int.toNat 11)).take (Int.toNat (p0.length : Int) - Int.toNat 11))), 0)
else none)
else none)
else none)
else none)
else none)
else none)
else none)
else none)
else none)
else none)
else none)
else none)
else none)))

theorem wagonnumber_Format_w (p0 : List UInt8) (r : (List UInt8) × Int) (w : World) (h : wagonnumber_Format p0 = some r) : CallVC Try.prog 19 [Vs p0] w fun v w' => v = .tuple #[Vs r.1, Vi r.2] ∧ Ev [] w w' := by
 refine calls_vc hmx Try.func19 (by kernel_rfl) rfl (rs := [.tmp 2, .tmp 3]) rfl (by kernel_rfl) (args := [Vs p0]) rfl ?_
 have hev : Ev [] w w := Ev.refl _ _
 have hms : MS w [[]] := ⟨List.pairwise_singleton _ _, fun l hl b hb => by simp only [List.mem_singleton] at hl; subst hl; cases hb⟩
 have hfr : FR w.heap.size [] := FR.nil _
 refine c_sp ?_
 refine x_pure 2 [(2, Vs ([] : List UInt8)), (3, Vi 0)] _ _ _ (by kernel_rfl) ?_
 refine x_ek ?_
 refine c_seq ?_
 refine c_sp ?_
 refine x_pure 1 [(5, Vs p0)] _ _ _ (by kernel_rfl) ?_
 obtain ⟨x2, hx, h⟩ := bind_some h
 have hcall := wagonnumber_Valid_w p0 _ w hx
 refine x_call 11 #[] #[] [Vs p0] _ rfl rfl rfl rfl hcall ?_
 rintro v w3 ⟨rfl, he3⟩
 clear hcall hx
 refine inl1 ?_
 replace hms := hms.ev he3
 replace hev := hev.ext he3
 refine x_pure 1 [(4, Vi x2)] _ _ _ (by kernel_rfl) ?_
 refine x_ek ?_
 refine c_sp ?_
 refine x_pure 2 [(7, Vi x2), (8, .bool (x2 != 0))] _ _ _ (by kernel_rfl) ?_
 refine x_ek ?_
 refine c_cond (x2 != 0) rfl (fun hb => ?_) (fun hb => ?_)
 · replace h := ite_t hb h
   refine c_sp ?_
   refine x_pure 3 [(9, Vi x2), (2, Vs ([] : List UInt8)), (3, Vi x2)] _ _ _ (by kernel_rfl) ?_
   refine x_ek ?_
   refine c_ret ?_
   refine k_then_ret ?_
   refine r_ret (r_vals [Vs ([] : List UInt8), Vi x2] ⟨rfl, rfl, trivial⟩ ?_)
   have hx := some_inj h
   subst hx
   exact ⟨rfl, hev⟩
 replace h := ite_f hb h
 refine c_skip ?_
 refine k_then ?_
 refine c_seq ?_
 refine c_drawn [] [(0, false), (1, false), (2, false), (3, false), (4, false), (5, false), (6, false), (7, false), (8, false), (9, false), (10, false), (11, false), (12, false), (13, false), (14, false), (15, false), (16, false), (17, false), (18, false), (19, false)] _ (by kernel_rfl) rfl ?_
 replace hms := hms.ev (Ev.drew w3)
 replace hev := hev.ext (Ev.drew w3)
 refine x_pure 1 [(10, Vs p0)] _ _ _ (by kernel_rfl) ?_
 have hg := guard_l h
 replace h := guard_r h
 refine x_slice (xv := Vs p0) (lv := none) (hv := (some (Vi 2))) (mv := none) (Vs ((p0.drop (Int.toNat (0 : Int))).take (Int.toNat 2 - Int.toNat (0 : Int)))) rfl rfl rfl rfl rfl rfl (reads_scut tstr9 _ none (some 2) hg) ?_
 refine x_binop (Vs (((p0.drop (Int.toNat (0 : Int))).take (Int.toNat 2 - Int.toNat (0 : Int))) ++ ([32] : List UInt8))) (Vs ((p0.drop (Int.toNat (0 : Int))).take (Int.toNat 2 - Int.toNat (0 : Int)))) (Vs ([32] : List UInt8)) rfl rfl rfl rfl (bin_sadd (guard_l h)) ?_
 replace h := guard_r h
 refine x_pure 1 [(13, Vs p0)] _ _ _ (by kernel_rfl) ?_
 have hg := guard_l h
 replace h := guard_r h
 refine x_slice (xv := Vs p0) (lv := (some (Vi 2))) (hv := (some (Vi 4))) (mv := none) (Vs ((p0.drop (Int.toNat 2)).take (Int.toNat 4 - Int.toNat 2))) rfl rfl rfl rfl rfl rfl (reads_scut tstr9 _ (some 2) (some 4) hg) ?_
 refine x_binop (Vs ((((p0.drop (Int.toNat (0 : Int))).take (Int.toNat 2 - Int.toNat (0 : Int))) ++ ([32] : List UInt8)) ++ ((p0.drop (Int.toNat 2)).take (Int.toNat 4 - Int.toNat 2)))) (Vs (((p0.drop (Int.toNat (0 : Int))).take (Int.toNat 2 - Int.toNat (0 : Int))) ++ ([32] : List UInt8))) (Vs ((p0.drop (Int.toNat 2)).take (Int.toNat 4 - Int.toNat 2))) rfl rfl rfl rfl (bin_sadd (guard_l h)) ?_
 replace h := guard_r h
 refine x_binop (Vs (((((p0.drop (Int.toNat (0 : Int))).take (Int.toNat 2 - Int.toNat (0 : Int))) ++ ([32] : List UInt8)) ++ ((p0.drop (Int.toNat 2)).take (Int.toNat 4 - Int.toNat 2))) ++ ([32] : List UInt8))) (Vs ((((p0.drop (Int.toNat (0 : Int))).take (Int.toNat 2 - Int.toNat (0 : Int))) ++ ([32] : List UInt8)) ++ ((p0.drop (Int.toNat 2)).take (Int.toNat 4 - Int.toNat 2)))) (Vs ([32] : List UInt8)) rfl rfl rfl rfl (bin_sadd (guard_l h)) ?_
 replace h := guard_r h
 refine x_pure 1 [(17, Vs p0)] _ _ _ (by kernel_rfl) ?_
 have hg := guard_l h
 replace h := guard_r h
 refine x_slice (xv := Vs p0) (lv := (some (Vi 4))) (hv := (some (Vi 8))) (mv := none) (Vs ((p0.drop (Int.toNat 4)).take (Int.toNat 8 - Int.toNat 4))) rfl rfl rfl rfl rfl rfl (reads_scut tstr9 _ (some 4) (some 8) hg) ?_
 refine x_binop (Vs ((((((p0.drop (Int.toNat (0 : Int))).take (Int.toNat 2 - Int.toNat (0 : Int))) ++ ([32] : List UInt8)) ++ ((p0.drop (Int.toNat 2)).take (Int.toNat 4 - Int.toNat 2))) ++ ([32] : List UInt8)) ++ ((p0.drop (Int.toNat 4)).take (Int.toNat 8 - Int.toNat 4)))) (Vs (((((p0.drop (Int.toNat (0 : Int))).take (Int.toNat 2 - Int.toNat (0 : Int))) ++ ([32] : List UInt8)) ++ ((p0.drop (Int.toNat 2)).take (Int.toNat 4 - Int.toNat 2))) ++ ([32] : List UInt8))) (Vs ((p0.drop (Int.toNat 4)).take (Int.toNat 8 - Int.toNat 4))) rfl rfl rfl rfl (bin_sadd (guard_l h)) ?_
 replace h := guard_r h
 refine x_binop (Vs (((((((p0.drop (Int.toNat (0 : Int))).take (Int.toNat 2 - Int.toNat (0 : Int))) ++ ([32] : List UInt8)) ++ ((p0.drop (Int.toNat 2)).take (Int.toNat 4 - Int.toNat 2))) ++ ([32] : List UInt8)) ++ ((p0.drop (Int.toNat 4)).take (Int.toNat 8 - Int.toNat 4))) ++ ([32] : List UInt8))) (Vs ((((((p0.drop (Int.toNat (0 : Int))).take (Int.toNat 2 - Int.toNat (0 : Int))) ++ ([32] : List UInt8)) ++ ((p0.drop (Int.toNat 2)).take (Int.toNat 4 - Int.toNat 2))) ++ ([32] : List UInt8)) ++ ((p0.drop (Int.toNat 4)).take (Int.toNat 8 - Int.toNat 4)))) (Vs ([32] : List UInt8)) rfl rfl rfl rfl (bin_sadd (guard_l h)) ?_
 replace h := guard_r h
 refine x_pure 1 [(21, Vs p0)] _ _ _ (by kernel_rfl) ?_
 have hg := guard_l h
 replace h := guard_r h
 refine x_slice (xv := Vs p0) (lv := (some (Vi 8))) (hv := (some (Vi 11))) (mv := none) (Vs ((p0.drop (Int.toNat 8)).take (Int.toNat 11 - Int.toNat 8))) rfl rfl rfl rfl rfl rfl (reads_scut tstr9 _ (some 8) (some 11) hg) ?_
 refine x_binop (Vs ((((((((p0.drop (Int.toNat (0 : Int))).take (Int.toNat 2 - Int.toNat (0 : Int))) ++ ([32] : List UInt8)) ++ ((p0.drop (Int.toNat 2)).take (Int.toNat 4 - Int.toNat 2))) ++ ([32] : List UInt8)) ++ ((p0.drop (Int.toNat 4)).take (Int.toNat 8 - Int.toNat 4))) ++ ([32] : List UInt8)) ++ ((p0.drop (Int.toNat 8)).take (Int.toNat 11 - Int.toNat 8)))) (Vs (((((((p0.drop (Int.toNat (0 : Int))).take (Int.toNat 2 - Int.toNat (0 : Int))) ++ ([32] : List UInt8)) ++ ((p0.drop (Int.toNat 2)).take (Int.toNat 4 - Int.toNat 2))) ++ ([32] : List UInt8)) ++ ((p0.drop (Int.toNat 4)).take (Int.toNat 8 - Int.toNat 4))) ++ ([32] : List UInt8))) (Vs ((p0.drop (Int.toNat 8)).take (Int.toNat 11 - Int.toNat 8))) rfl rfl rfl rfl (bin_sadd (guard_l h)) ?_
 replace h := guard_r h
 refine x_binop (Vs (((((((((p0.drop (Int.toNat (0 : Int))).take (Int.toNat 2 - Int.toNat (0 : Int))) ++ ([32] : List UInt8)) ++ ((p0.drop (Int.toNat 2)).take (Int.toNat 4 - Int.toNat 2))) ++ ([32] : List UInt8)) ++ ((p0.drop (Int.toNat 4)).take (Int.toNat 8 - Int.toNat 4))) ++ ([32] : List UInt8)) ++ ((p0.drop (Int.toNat 8)).take (Int.toNat 11 - Int.toNat 8))) ++ ([45] : List UInt8))) (Vs ((((((((p0.drop (Int.toNat (0 : Int))).take (Int.toNat 2 - Int.toNat (0 : Int))) ++ ([32] : List UInt8)) ++ ((p0.drop (Int.toNat 2)).take (Int.toNat 4 - Int.toNat 2))) ++ ([32] : List UInt8)) ++ ((p0.drop (Int.toNat 4)).take (Int.toNat 8 - Int.toNat 4))) ++ ([32] : List UInt8)) ++ ((p0.drop (Int.toNat 8)).take (Int.toNat 11 - Int.toNat 8)))) (Vs ([45] : List UInt8)) rfl rfl rfl rfl (bin_sadd (guard_l h)) ?_
 replace h := guard_r h
 refine x_pure 1 [(25, Vs p0)] _ _ _ (by kernel_rfl) ?_
 have hg := guard_l h
 replace h := guard_r h
 refine x_slice (xv := Vs p0) (lv := (some (Vi 11))) (hv := none) (mv := none) (Vs ((p0.drop (Int.toNat 11)).take (Int.toNat (p0.length : Int) - Int.toNat 11))) rfl rfl rfl rfl rfl rfl (reads_scut tstr9 _ (some 11) none hg) ?_
 refine x_binop (Vs ((((((((((p0.drop (Int.toNat (0 : Int))).take (Int.toNat 2 - Int.toNat (0 : Int))) ++ ([32] : List UInt8)) ++ ((p0.drop (Int.toNat 2)).take (Int.toNat 4 - Int.toNat 2))) ++ ([32] : List UInt8)) ++ ((p0.drop (Int.toNat 4)).take (Int.toNat 8 - Int.toNat 4))) ++ ([32] : List UInt8)) ++ ((p0.drop (Int.toNat 8)).take (Int.toNat 11 - Int.toNat 8))) ++ ([45] : List UInt8)) ++ ((p0.drop (Int.toNat 11)).take (Int.toNat (p0.length : Int) - Int.toNat 11)))) (Vs (((((((((p0.drop (Int.toNat (0 : Int))).take (Int.toNat 2 - Int.toNat (0 : Int))) ++ ([32] : List UInt8)) ++ ((p0.drop (Int.toNat 2)).take (Int.toNat 4 - Int.toNat 2))) ++ ([32] : List UInt8)) ++ ((p0.drop (Int.toNat 4)).take (Int.toNat 8 - Int.toNat 4))) ++ ([32] : List UInt8)) ++ ((p0.drop (Int.toNat 8)).take (Int.toNat 11 - Int.toNat 8))) ++ ([45] : List UInt8))) (Vs ((p0.drop (Int.toNat 11)).take (Int.toNat (p0.length : Int) - Int.toNat 11))) rfl rfl rfl rfl (bin_sadd (guard_l h)) ?_
 replace h := guard_r h
 refine x_pure 2 [(2, Vs ((((((((((p0.drop (Int.toNat (0 : Int))).take (Int.toNat 2 - Int.toNat (0 : Int))) ++ ([32] : List UInt8)) ++ ((p0.drop (Int.toNat 2)).take (Int.toNat 4 - Int.toNat 2))) ++ ([32] : List UInt8)) ++ ((p0.drop (Int.toNat 4)).take (Int.toNat 8 - Int.toNat 4))) ++ ([32] : List UInt8)) ++ ((p0.drop (Int.toNat 8)).take (Int.toNat 11 - Int.toNat 8))) ++ ([45] : List UInt8)) ++ ((p0.drop (Int.toNat 11)).take (Int.toNat (p0.length : Int) - Int.toNat 11)))), (3, Vi 0)] _ _ _ (by kernel_rfl) ?_
 refine x_ek ?_
 refine c_norm [(2, Vs ((((((((((p0.drop (Int.toNat (0 : Int))).take (Int.toNat 2 - Int.toNat (0 : Int))) ++ ([32] : List UInt8)) ++ ((p0.drop (Int.toNat 2)).take (Int.toNat 4 - Int.toNat 2))) ++ ([32] : List UInt8)) ++ ((p0.drop (Int.toNat 4)).take (Int.toNat 8 - Int.toNat 4))) ++ ([32] : List UInt8)) ++ ((p0.drop (Int.toNat 8)).take (Int.toNat 11 - Int.toNat 8))) ++ ([45] : List UInt8)) ++ ((p0.drop (Int.toNat 11)).take (Int.toNat (p0.length : Int) - Int.toNat 11)))), (3, Vi 0)] ⟨rfl, rfl, trivial⟩ (fun J => ?_)
 refine c_ret ?_
 refine r_ret (r_vals [Vs ((((((((((p0.drop (Int.toNat (0 : Int))).take (Int.toNat 2 - Int.toNat (0 : Int))) ++ ([32] : List UInt8)) ++ ((p0.drop (Int.toNat 2)).take (Int.toNat 4 - Int.toNat 2))) ++ ([32] : List UInt8)) ++ ((p0.drop (Int.toNat 4)).take (Int.toNat 8 - Int.toNat 4))) ++ ([32] : List UInt8)) ++ ((p0.drop (Int.toNat 8)).take (Int.toNat 11 - Int.toNat 8))) ++ ([45] : List UInt8)) ++ ((p0.drop (Int.toNat 11)).take (Int.toNat (p0.length : Int) - Int.toNat 11))), Vi 0] ⟨rfl, rfl, trivial⟩ ?_)
 have hx := some_inj h
 subst hx
 exact ⟨rfl, hev⟩
def wagonnumber_Kind_J6 (x4 : Int) (t15__s15_j6 : Bool) : Option (Int × Int) :=
(if t15__s15_j6 = true then
some (2, 0)
else
(if (x4 == 57) = true then
some (3, 0)
else
some (0, 0)))

def wagonnumber_Kind_J5 (x4 : Int) (t12__s12_j5 : Bool) : Option (Int × Int) :=
(if t12__s12_j5 = true then
some (1, 0)
else
(if (x4 == 50) = true then
wagonnumber_Kind_J6 x4 true
else
wagonnumber_Kind_J6 x4 (x4 == 52)))

def wagonnumber_Kind (p0 : List UInt8) : Option (Int × Int) :=
((wagonnumber_Valid p0).bind fun x2 =>
(if (x2 != 0) = true then
some (0, x2)
else
((sAt p0 4).bind fun x4 =>
(if (x4 == 55) = true then
wagonnumber_Kind_J5 x4 true
else
wagonnumber_Kind_J5 x4 (x4 == 56)))))

theorem wagonnumber_Kind_w (p0 : List UInt8) (r : Int × Int) (w : World) (h : wagonnumber_Kind p0 = some r) : CallVC Try.prog 28 [Vs p0] w fun v w' => v = .tuple #[Vi r.1, Vi r.2] ∧ Ev [] w w' := by
 refine calls_vc hmx Try.func28 (by kernel_rfl) rfl (rs := [.tmp 2, .tmp 3]) rfl (by kernel_rfl) (args := [Vs p0]) rfl ?_
 have hev : Ev [] w w := Ev.refl _ _
 have hms : MS w [[]] := ⟨List.pairwise_singleton _ _, fun l hl b hb => by simp only [List.mem_singleton] at hl; subst hl; cases hb⟩
 have hfr : FR w.heap.size [] := FR.nil _
 refine c_sp ?_
 refine x_pure 2 [(2, Vi 0), (3, Vi 0)] _ _ _ (by kernel_rfl) ?_
 refine x_ek ?_
 refine c_seq ?_
 refine c_sp ?_
 refine x_pure 1 [(5, Vs p0)] _ _ _ (by kernel_rfl) ?_
 obtain ⟨x2, hx, h⟩ := bind_some h
 have hcall := wagonnumber_Valid_w p0 _ w hx
 refine x_call 11 #[] #[] [Vs p0] _ rfl rfl rfl rfl hcall ?_
 rintro v w3 ⟨rfl, he3⟩
 clear hcall hx
 refine inl1 ?_
 replace hms := hms.ev he3
 replace hev := hev.ext he3
 refine x_pure 1 [(4, Vi x2)] _ _ _ (by kernel_rfl) ?_
 refine x_ek ?_
 refine c_sp ?_
 refine x_pure 2 [(7, Vi x2), (8, .bool (x2 != 0))] _ _ _ (by kernel_rfl) ?_
 refine x_ek ?_
 refine c_cond (x2 != 0) rfl (fun hb => ?_) (fun hb => ?_)
 · replace h := ite_t hb h
   refine c_sp ?_
   refine x_pure 3 [(9, Vi x2), (2, Vi 0), (3, Vi x2)] _ _ _ (by kernel_rfl) ?_
   refine x_ek ?_
   refine c_ret ?_
   refine k_then_ret ?_
   refine r_ret (r_vals [Vi 0, Vi x2] ⟨rfl, rfl, trivial⟩ ?_)
   have hx := some_inj h
   subst hx
   exact ⟨rfl, hev⟩
 replace h := ite_f hb h
 refine c_skip ?_
 refine k_then ?_
 refine c_seq ?_
 refine c_sp ?_
 refine x_pure 1 [(10, Vs p0)] _ _ _ (by kernel_rfl) ?_
 obtain ⟨x4, hx4, h⟩ := bind_some h
 refine x_index (xv := Vs p0) (yv := Vi 4) (.int .u8 x4) rfl rfl rfl rfl (reads_sindex tstr9 hx4) ?_
 refine x_ek ?_
 refine c_block ?_
 refine c_join (σ := Bool) (fun s => match s with | t12__s12_j5 => [(11, .int .u8 x4), (12, .bool t12__s12_j5)]) (fun s w' => match s with | t12__s12_j5 => wagonnumber_Kind_J5 x4 t12__s12_j5 = some r ∧ Ev [] w w' ∧ MS w' [[]] ∧ FR w.heap.size []) ?_ ?_
 · refine c_sp ?_
   refine x_pure 2 [(13, .bool (x4 == 55)), (12, .bool (x4 == 55))] _ _ _ (by kernel_rfl) ?_
   refine x_ek ?_
   refine c_cond (x4 == 55) rfl (fun hb => ?_) (fun hb => ?_)
   · replace h := ite_t hb h
     refine c_skip ?_
     exact k_then ⟨true, ⟨rfl, rfl, trivial⟩, h, hev, hms, hfr⟩
   replace h := ite_f hb h
   refine c_plain ?_
   refine x_pure 2 [(14, .bool (x4 == 56)), (12, .bool (x4 == 56))] _ _ _ (by kernel_rfl) ?_
   refine x_end rfl ?_
   exact k_then ⟨x4 == 56, ⟨rfl, rfl, trivial⟩, h, hev, hms, hfr⟩
 rintro t12__s12_j5 J wj5 ⟨h, hev, hms, hfr⟩
 refine c_cond t12__s12_j5 rfl (fun hb => ?_) (fun hb => ?_)
 · replace h := ite_t hb h
   refine c_sp ?_
   refine x_pure 2 [(2, Vi 1), (3, Vi 0)] _ _ _ (by kernel_rfl) ?_
   refine x_ek ?_
   refine c_norm [(2, Vi 1), (3, Vi 0)] ⟨rfl, rfl, trivial⟩ (fun J => ?_)
   refine c_ret ?_
   refine k_block_ret ?_
   refine k_then_ret ?_
   refine r_ret (r_vals [Vi 1, Vi 0] ⟨rfl, rfl, trivial⟩ ?_)
   have hx := some_inj h
   subst hx
   exact ⟨rfl, hev⟩
 replace h := ite_f hb h
 refine c_join (σ := Bool) (fun s => match s with | t15__s15_j6 => [(11, .int .u8 x4), (15, .bool t15__s15_j6)]) (fun s w' => match s with | t15__s15_j6 => wagonnumber_Kind_J6 x4 t15__s15_j6 = some r ∧ Ev [] w w' ∧ MS w' [[]] ∧ FR w.heap.size []) ?_ ?_
 · refine c_sp ?_
   refine x_pure 2 [(16, .bool (x4 == 50)), (15, .bool (x4 == 50))] _ _ _ (by kernel_rfl) ?_
   refine x_ek ?_
   refine c_norm [(11, .int .u8 x4), (15, .bool (x4 == 50))] ⟨rfl, rfl, trivial⟩ (fun J => ?_)
   refine c_cond (x4 == 50) rfl (fun hb => ?_) (fun hb => ?_)
   · replace h := ite_t hb h
     refine c_skip ?_
     exact k_then ⟨true, ⟨rfl, rfl, trivial⟩, h, hev, hms, hfr⟩
   replace h := ite_f hb h
   refine c_plain ?_
   refine x_pure 2 [(17, .bool (x4 == 52)), (15, .bool (x4 == 52))] _ _ _ (by kernel_rfl) ?_
   refine x_end rfl ?_
   exact k_then ⟨x4 == 52, ⟨rfl, rfl, trivial⟩, h, hev, hms, hfr⟩
 rintro t15__s15_j6 J wj6 ⟨h, hev, hms, hfr⟩
 refine c_cond t15__s15_j6 rfl (fun hb => ?_) (fun hb => ?_)
 · replace h := ite_t hb h
   refine c_sp ?_
   refine x_pure 2 [(2, Vi 2), (3, Vi 0)] _ _ _ (by kernel_rfl) ?_
   refine x_ek ?_
   refine c_norm [(2, Vi 2), (3, Vi 0)] ⟨rfl, rfl, trivial⟩ (fun J => ?_)
   refine c_ret ?_
   refine k_block_ret ?_
   refine k_then_ret ?_
   refine r_ret (r_vals [Vi 2, Vi 0] ⟨rfl, rfl, trivial⟩ ?_)
   have hx := some_inj h
   subst hx
   exact ⟨rfl, hev⟩
 replace h := ite_f hb h
 refine c_sp ?_
 refine x_pure 2 [(19, .bool (x4 == 57)), (18, .bool (x4 == 57))] _ _ _ (by kernel_rfl) ?_
 refine x_ek ?_
 refine c_norm [(18, .bool (x4 == 57))] ⟨rfl, trivial⟩ (fun J => ?_)
 refine c_cond (x4 == 57) rfl (fun hb => ?_) (fun hb => ?_)
 · replace h := ite_t hb h
   refine c_sp ?_
   refine x_pure 2 [(2, Vi 3), (3, Vi 0)] _ _ _ (by kernel_rfl) ?_
   refine x_ek ?_
   refine c_ret ?_
   refine k_block_ret ?_
   refine k_then_ret ?_
   refine r_ret (r_vals [Vi 3, Vi 0] ⟨rfl, rfl, trivial⟩ ?_)
   have hx := some_inj h
   subst hx
   exact ⟨rfl, hev⟩
 replace h := ite_f hb h
 refine c_skip ?_
 refine k_block ?_
 refine k_then ?_
 refine c_sp ?_
 refine x_pure 2 [(2, Vi 0), (3, Vi 0)] _ _ _ (by kernel_rfl) ?_
 refine x_ek ?_
 refine c_ret ?_
 refine r_ret (r_vals [Vi 0, Vi 0] ⟨rfl, rfl, trivial⟩ ?_)
 have hx := some_inj h
 subst hx
 exact ⟨rfl, hev⟩
def wagonnumber_Parse (p0 : List UInt8) : Option ((List UInt8) × Int) :=
(if ((p0.length : Int) != 16) = true then
some (([] : List UInt8), 6)
else
((sAt p0 2).bind fun x2 =>
(if (x2 != 32) = true then
some (([] : List UInt8), 6)
else
((sAt p0 5).bind fun x3 =>
(if (x3 != 32) = true then
some (([] : List UInt8), 6)
else
((sAt p0 10).bind fun x4 =>
(if (x4 != 32) = true then
some (([] : List UInt8), 6)
else
((sAt p0 14).bind fun x5 =>
(if (x5 != 45) = true then
some (([] : List UInt8), 6)
else
(if 0 ≤ ((0 : Int) : Int) ∧ ((0 : Int) : Int) ≤ (2 : Int) ∧ (2 : Int) ≤ (p0.length : Int) then
(if 0 ≤ (3 : Int) ∧ (3 : Int) ≤ (5 : Int) ∧ (5 : Int) ≤ (p0.length : Int) then
(if ((p0.drop (Int.toNat (0 : Int))).take (Int.toNat 2 - Int.toNat (0 : Int))).length + ((p0.drop (Int.toNat 3)).take (Int.toNat 5 - Int.toNat 3)).length ≤ 4294967296 then
(if 0 ≤ (6 : Int) ∧ (6 : Int) ≤ (10 : Int) ∧ (10 : Int) ≤ (p0.length : Int) then
(if (((p0.drop (Int.toNat (0 : Int))).take (Int.toNat 2 - Int.toNat (0 : Int))) ++ ((p0.drop (Int.toNat 3)).take (Int.toNat 5 - Int.toNat 3))).length + ((p0.drop (Int.toNat 6)).take (Int.toNat 10 - Int.toNat 6)).length ≤ 4294967296 then
(if 0 ≤ (11 : Int) ∧ (11 : Int) ≤ (14 : Int) ∧ (14 : Int) ≤ (p0.length : Int) then
(if ((((p0.drop (Int.toNat (0 : Int))).take (Int.toNat 2 - Int.toNat (0 : Int))) ++ ((p0.drop (Int.toNat 3)).take (Int.toNat 5 - Int.toNat 3))) ++ ((p0.drop (Int.toNat 6)).take (Int.toNat 10 - Int.toNat 6))).length + ((p0.drop (Int.toNat 11)).take (Int.toNat 14 - Int.toNat 11)).length ≤ 4294967296 then
(if 0 ≤ (15 : Int) ∧ (15 : Int) ≤ ((p0.length : Int) : Int) ∧ ((p0.length : Int) : Int) ≤ (p0.length : Int) then
(if (((((p0.drop (Int.toNat (0 : Int))).take (Int.toNat 2 - Int.toNat (0 : Int))) ++ ((p0.drop (Int.toNat 3)).take (Int.toNat 5 - Int.toNat 3))) ++ ((p0.drop (Int.toNat 6)).take (Int.toNat 10 - Int.toNat 6))) ++ ((p0.drop (Int.toNat 11)).take (Int.toNat 14 - Int.toNat 11))).length + ((p0.drop (Int.toNat 15)).take (Int.toNat (p0.length : Int) - Int.toNat 15)).length ≤ 4294967296 then
((wagonnumber_Valid ((((((p0.drop (Int.toNat (0 : Int))).take (Int.toNat 2 - Int.toNat (0 : Int))) ++ ((p0.drop (Int.toNat 3)).take (Int.toNat 5 - Int.toNat 3))) ++ ((p0.drop (Int.toNat 6)).take (Int.toNat 10 - Int.toNat 6))) ++ ((p0.drop (Int.toNat 11)).take (Int.toNat 14 - Int.toNat 11))) ++ ((p0.drop (Int.toNat 15)).take (Int.toNat (p0.length : Int) - Int.toNat 15)))).bind fun x6 =>
(if (x6 == 0) = true then
some (((((((p0.drop (Int.toNat (0 : Int))).take (Int.toNat 2 - Int.toNat (0 : Int))) ++ ((p0.drop (Int.toNat 3)).take (Int.toNat 5 - Int.toNat 3))) ++ ((p0.drop (Int.toNat 6)).take (Int.toNat 10 - Int.toNat 6))) ++ ((p0.drop (Int.toNat 11)).take (Int.toNat 14 - Int.toNat 11))) ++ ((p0.drop (Int.toNat 15)).take (Int.toNat (p0.length : Int) - Int.toNat 15))), 0)
else
(if (x6 == 11) = true then
some (([] : List UInt8), 6)
else
some (([] : List UInt8), x6))))
else none)
else none)
else none)
else none)
else none)
else none)
else none)
else none)
else none))))))))))

theorem wagonnumber_Parse_w (p0 : List UInt8) (r : (List UInt8) × Int) (w : World) (h : wagonnumber_Parse p0 = some r) : CallVC Try.prog 20 [Vs p0] w fun v w' => v = .tuple #[Vs r.1, Vi r.2] ∧ Ev [] w w' := by
 refine calls_vc hmx Try.func20 (by kernel_rfl) rfl (rs := [.tmp 2, .tmp 3]) rfl (by kernel_rfl) (args := [Vs p0]) rfl ?_
 have hev : Ev [] w w := Ev.refl _ _
 have hms : MS w [[]] := ⟨List.pairwise_singleton _ _, fun l hl b hb => by simp only [List.mem_singleton] at hl; subst hl; cases hb⟩
 have hfr : FR w.heap.size [] := FR.nil _
 refine c_sp ?_
 refine x_pure 2 [(2, Vs ([] : List UInt8)), (3, Vi 0)] _ _ _ (by kernel_rfl) ?_
 refine x_ek ?_
 refine c_seq ?_
 refine c_sp ?_
 refine x_pure 1 [(6, Vs p0)] _ _ _ (by kernel_rfl) ?_
 refine x_len (vs := [Vs p0]) (Vi (p0.length : Int)) rfl rfl rfl (reads_slen tstr9 _) ?_
 refine x_pure 2 [(8, .bool ((p0.length : Int) != 16)), (9, .bool ((p0.length : Int) != 16))] _ _ _ (by kernel_rfl) ?_
 refine x_split 9 ((p0.length : Int) != 16) rfl (fun hb => ?_) (fun hb => ?_)
 · replace h := ite_t hb h
   refine x_pure 19 [(10, undef), (11, undef), (12, undef), (13, .bool true), (14, .bool true), (15, undef), (16, undef), (17, undef), (18, .bool true), (19, .bool true), (20, undef), (21, undef), (22, undef), (23, .bool true), (24, .bool true), (25, undef), (26, undef), (27, undef), (28, .bool true)] _ _ _ (by kernel_rfl) ?_
   refine x_ek ?_
   refine c_norm [(0, Vs p0), (28, .bool true)] ⟨rfl, rfl, trivial⟩ (fun J => ?_)
   refine c_true rfl ?_
   refine c_sp ?_
   refine x_pure 2 [(2, Vs ([] : List UInt8)), (3, Vi 6)] _ _ _ (by kernel_rfl) ?_
   refine x_ek ?_
   refine c_ret ?_
   refine k_then_ret ?_
   refine r_ret (r_vals [Vs ([] : List UInt8), Vi 6] ⟨rfl, rfl, trivial⟩ ?_)
   have hx := some_inj h
   subst hx
   exact ⟨rfl, hev⟩
 replace h := ite_f hb h
 refine x_pure 1 [(10, Vs p0)] _ _ _ (by kernel_rfl) ?_
 obtain ⟨x2, hx2, h⟩ := bind_some h
 refine x_index (xv := Vs p0) (yv := Vi 2) (.int .u8 x2) rfl rfl rfl rfl (reads_sindex tstr9 hx2) ?_
 refine x_pure 3 [(12, .bool (x2 != 32)), (13, .bool (x2 != 32)), (14, .bool (x2 != 32))] _ _ _ (by kernel_rfl) ?_
 refine x_split 14 (x2 != 32) rfl (fun hb => ?_) (fun hb => ?_)
 · replace h := ite_t hb h
   refine x_pure 14 [(15, undef), (16, undef), (17, undef), (18, .bool true), (19, .bool true), (20, undef), (21, undef), (22, undef), (23, .bool true), (24, .bool true), (25, undef), (26, undef), (27, undef), (28, .bool true)] _ _ _ (by kernel_rfl) ?_
   refine x_ek ?_
   refine c_norm [(0, Vs p0), (28, .bool true)] ⟨rfl, rfl, trivial⟩ (fun J => ?_)
   refine c_true rfl ?_
   refine c_sp ?_
   refine x_pure 2 [(2, Vs ([] : List UInt8)), (3, Vi 6)] _ _ _ (by kernel_rfl) ?_
   refine x_ek ?_
   refine c_ret ?_
   refine k_then_ret ?_
   refine r_ret (r_vals [Vs ([] : List UInt8), Vi 6] ⟨rfl, rfl, trivial⟩ ?_)
   have hx := some_inj h
   subst hx
   exact ⟨rfl, hev⟩
 replace h := ite_f hb h
 refine x_pure 1 [(15, Vs p0)] _ _ _ (by kernel_rfl) ?_
 obtain ⟨x3, hx3, h⟩ := bind_some h
 refine x_index (xv := Vs p0) (yv := Vi 5) (.int .u8 x3) rfl rfl rfl rfl (reads_sindex tstr9 hx3) ?_
 refine x_pure 3 [(17, .bool (x3 != 32)), (18, .bool (x3 != 32)), (19, .bool (x3 != 32))] _ _ _ (by kernel_rfl) ?_
 refine x_split 19 (x3 != 32) rfl (fun hb => ?_) (fun hb => ?_)
 · replace h := ite_t hb h
   refine x_pure 9 [(20, undef), (21, undef), (22, undef), (23, .bool true), (24, .bool true), (25, undef), (26, undef), (27, undef), (28, .bool true)] _ _ _ (by kernel_rfl) ?_
   refine x_ek ?_
   refine c_norm [(0, Vs p0), (28, .bool true)] ⟨rfl, rfl, trivial⟩ (fun J => ?_)
   refine c_true rfl ?_
   refine c_sp ?_
   refine x_pure 2 [(2, Vs ([] : List UInt8)), (3, Vi 6)] _ _ _ (by kernel_rfl) ?_
   refine x_ek ?_
   refine c_ret ?_
   refine k_then_ret ?_
   refine r_ret (r_vals [Vs ([] : List UInt8), Vi 6] ⟨rfl, rfl, trivial⟩ ?_)
   have hx := some_inj h
   subst hx
   exact ⟨rfl, hev⟩
 replace h := ite_f hb h
 refine x_pure 1 [(20, Vs p0)] _ _ _ (by kernel_rfl) ?_
 obtain ⟨x4, hx4, h⟩ := bind_some h
 refine x_index (xv := Vs p0) (yv := Vi 10) (.int .u8 x4) rfl rfl rfl rfl (reads_sindex tstr9 hx4) ?_
 refine x_pure 3 [(22, .bool (x4 != 32)), (23, .bool (x4 != 32)), (24, .bool (x4 != 32))] _ _ _ (by kernel_rfl) ?_
 refine x_split 24 (x4 != 32) rfl (fun hb => ?_) (fun hb => ?_)
 · replace h := ite_t hb h
   refine x_pure 4 [(25, undef), (26, undef), (27, undef), (28, .bool true)] _ _ _ (by kernel_rfl) ?_
   refine x_ek ?_
   refine c_norm [(0, Vs p0), (28, .bool true)] ⟨rfl, rfl, trivial⟩ (fun J => ?_)
   refine c_true rfl ?_
   refine c_sp ?_
   refine x_pure 2 [(2, Vs ([] : List UInt8)), (3, Vi 6)] _ _ _ (by kernel_rfl) ?_
   refine x_ek ?_
   refine c_ret ?_
   refine k_then_ret ?_
   refine r_ret (r_vals [Vs ([] : List UInt8), Vi 6] ⟨rfl, rfl, trivial⟩ ?_)
   have hx := some_inj h
   subst hx
   exact ⟨rfl, hev⟩
 replace h := ite_f hb h
 refine x_pure 1 [(25, Vs p0)] _ _ _ (by kernel_rfl) ?_
 obtain ⟨x5, hx5, h⟩ := bind_some h
 refine x_index (xv := Vs p0) (yv := Vi 14) (.int .u8 x5) rfl rfl rfl rfl (reads_sindex tstr9 hx5) ?_
 refine x_pure 2 [(27, .bool (x5 != 45)), (28, .bool (x5 != 45))] _ _ _ (by kernel_rfl) ?_
 refine x_ek ?_
 refine c_norm [(0, Vs p0), (28, .bool (x5 != 45))] ⟨rfl, rfl, trivial⟩ (fun J => ?_)
 refine c_cond (x5 != 45) rfl (fun hb => ?_) (fun hb => ?_)
 · replace h := ite_t hb h
   refine c_sp ?_
   refine x_pure 2 [(2, Vs ([] : List UInt8)), (3, Vi 6)] _ _ _ (by kernel_rfl) ?_
   refine x_ek ?_
   refine c_ret ?_
   refine k_then_ret ?_
   refine r_ret (r_vals [Vs ([] : List UInt8), Vi 6] ⟨rfl, rfl, trivial⟩ ?_)
   have hx := some_inj h
   subst hx
   exact ⟨rfl, hev⟩
 replace h := ite_f hb h
 refine c_skip ?_
 refine k_then ?_
 refine c_seq ?_
 refine c_drawn [] [(0, false), (1, false), (2, false), (3, false), (4, false), (5, false), (6, false), (7, false), (8, false), (9, false), (10, false), (11, false), (12, false), (13, false), (14, false)] _ (by kernel_rfl) rfl ?_
 replace hms := hms.ev (Ev.drew w)
 replace hev := hev.ext (Ev.drew w)
 refine x_pure 1 [(29, Vs p0)] _ _ _ (by kernel_rfl) ?_
 have hg := guard_l h
 replace h := guard_r h
 refine x_slice (xv := Vs p0) (lv := none) (hv := (some (Vi 2))) (mv := none) (Vs ((p0.drop (Int.toNat (0 : Int))).take (Int.toNat 2 - Int.toNat (0 : Int)))) rfl rfl rfl rfl rfl rfl (reads_scut tstr9 _ none (some 2) hg) ?_
 refine x_pure 1 [(31, Vs p0)] _ _ _ (by kernel_rfl) ?_
 have hg := guard_l h
 replace h := guard_r h
 refine x_slice (xv := Vs p0) (lv := (some (Vi 3))) (hv := (some (Vi 5))) (mv := none) (Vs ((p0.drop (Int.toNat 3)).take (Int.toNat 5 - Int.toNat 3))) rfl rfl rfl rfl rfl rfl (reads_scut tstr9 _ (some 3) (some 5) hg) ?_
 refine x_binop (Vs (((p0.drop (Int.toNat (0 : Int))).take (Int.toNat 2 - Int.toNat (0 : Int))) ++ ((p0.drop (Int.toNat 3)).take (Int.toNat 5 - Int.toNat 3)))) (Vs ((p0.drop (Int.toNat (0 : Int))).take (Int.toNat 2 - Int.toNat (0 : Int)))) (Vs ((p0.drop (Int.toNat 3)).take (Int.toNat 5 - Int.toNat 3))) rfl rfl rfl rfl (bin_sadd (guard_l h)) ?_
 replace h := guard_r h
 refine x_pure 1 [(34, Vs p0)] _ _ _ (by kernel_rfl) ?_
 have hg := guard_l h
 replace h := guard_r h
 refine x_slice (xv := Vs p0) (lv := (some (Vi 6))) (hv := (some (Vi 10))) (mv := none) (Vs ((p0.drop (Int.toNat 6)).take (Int.toNat 10 - Int.toNat 6))) rfl rfl rfl rfl rfl rfl (reads_scut tstr9 _ (some 6) (some 10) hg) ?_
 refine x_binop (Vs ((((p0.drop (Int.toNat (0 : Int))).take (Int.toNat 2 - Int.toNat (0 : Int))) ++ ((p0.drop (Int.toNat 3)).take (Int.toNat 5 - Int.toNat 3))) ++ ((p0.drop (Int.toNat 6)).take (Int.toNat 10 - Int.toNat 6)))) (Vs (((p0.drop (Int.toNat (0 : Int))).take (Int.toNat 2 - Int.toNat (0 : Int))) ++ ((p0.drop (Int.toNat 3)).take (Int.toNat 5 - Int.toNat 3)))) (Vs ((p0.drop (Int.toNat 6)).take (Int.toNat 10 - Int.toNat 6))) rfl rfl rfl rfl (bin_sadd (guard_l h)) ?_
 replace h := guard_r h
 refine x_pure 1 [(37, Vs p0)] _ _ _ (by kernel_rfl) ?_
 have hg := guard_l h
 replace h := guard_r h
 refine x_slice (xv := Vs p0) (lv := (some (Vi 11))) (hv := (some (Vi 14))) (mv := none) (Vs ((p0.drop (Int.toNat 11)).take (Int.toNat 14 - Int.toNat 11))) rfl rfl rfl rfl rfl rfl (reads_scut tstr9 _ (some 11) (some 14) hg) ?_
 refine x_binop (Vs (((((p0.drop (Int.toNat (0 : Int))).take (Int.toNat 2 - Int.toNat (0 : Int))) ++ ((p0.drop (Int.toNat 3)).take (Int.toNat 5 - Int.toNat 3))) ++ ((p0.drop (Int.toNat 6)).take (Int.toNat 10 - Int.toNat 6))) ++ ((p0.drop (Int.toNat 11)).take (Int.toNat 14 - Int.toNat 11)))) (Vs ((((p0.drop (Int.toNat (0 : Int))).take (Int.toNat 2 - Int.toNat (0 : Int))) ++ ((p0.drop (Int.toNat 3)).take (Int.toNat 5 - Int.toNat 3))) ++ ((p0.drop (Int.toNat 6)).take (Int.toNat 10 - Int.toNat 6)))) (Vs ((p0.drop (Int.toNat 11)).take (Int.toNat 14 - Int.toNat 11))) rfl rfl rfl rfl (bin_sadd (guard_l h)) ?_
 replace h := guard_r h
 refine x_pure 1 [(40, Vs p0)] _ _ _ (by kernel_rfl) ?_
 have hg := guard_l h
 replace h := guard_r h
 refine x_slice (xv := Vs p0) (lv := (some (Vi 15))) (hv := none) (mv := none) (Vs ((p0.drop (Int.toNat 15)).take (Int.toNat (p0.length : Int) - Int.toNat 15))) rfl rfl rfl rfl rfl rfl (reads_scut tstr9 _ (some 15) none hg) ?_
 refine x_binop (Vs ((((((p0.drop (Int.toNat (0 : Int))).take (Int.toNat 2 - Int.toNat (0 : Int))) ++ ((p0.drop (Int.toNat 3)).take (Int.toNat 5 - Int.toNat 3))) ++ ((p0.drop (Int.toNat 6)).take (Int.toNat 10 - Int.toNat 6))) ++ ((p0.drop (Int.toNat 11)).take (Int.toNat 14 - Int.toNat 11))) ++ ((p0.drop (Int.toNat 15)).take (Int.toNat (p0.length : Int) - Int.toNat 15)))) (Vs (((((p0.drop (Int.toNat (0 : Int))).take (Int.toNat 2 - Int.toNat (0 : Int))) ++ ((p0.drop (Int.toNat 3)).take (Int.toNat 5 - Int.toNat 3))) ++ ((p0.drop (Int.toNat 6)).take (Int.toNat 10 - Int.toNat 6))) ++ ((p0.drop (Int.toNat 11)).take (Int.toNat 14 - Int.toNat 11)))) (Vs ((p0.drop (Int.toNat 15)).take (Int.toNat (p0.length : Int) - Int.toNat 15))) rfl rfl rfl rfl (bin_sadd (guard_l h)) ?_
 replace h := guard_r h
 refine x_pure 1 [(4, Vs ((((((p0.drop (Int.toNat (0 : Int))).take (Int.toNat 2 - Int.toNat (0 : Int))) ++ ((p0.drop (Int.toNat 3)).take (Int.toNat 5 - Int.toNat 3))) ++ ((p0.drop (Int.toNat 6)).take (Int.toNat 10 - Int.toNat 6))) ++ ((p0.drop (Int.toNat 11)).take (Int.toNat 14 - Int.toNat 11))) ++ ((p0.drop (Int.toNat 15)).take (Int.toNat (p0.length : Int) - Int.toNat 15))))] _ _ _ (by kernel_rfl) ?_
 refine x_ek ?_
 refine c_norm [(4, Vs ((((((p0.drop (Int.toNat (0 : Int))).take (Int.toNat 2 - Int.toNat (0 : Int))) ++ ((p0.drop (Int.toNat 3)).take (Int.toNat 5 - Int.toNat 3))) ++ ((p0.drop (Int.toNat 6)).take (Int.toNat 10 - Int.toNat 6))) ++ ((p0.drop (Int.toNat 11)).take (Int.toNat 14 - Int.toNat 11))) ++ ((p0.drop (Int.toNat 15)).take (Int.toNat (p0.length : Int) - Int.toNat 15))))] ⟨rfl, trivial⟩ (fun J => ?_)
 refine c_sp ?_
 refine x_pure 1 [(43, Vs ((((((p0.drop (Int.toNat (0 : Int))).take (Int.toNat 2 - Int.toNat (0 : Int))) ++ ((p0.drop (Int.toNat 3)).take (Int.toNat 5 - Int.toNat 3))) ++ ((p0.drop (Int.toNat 6)).take (Int.toNat 10 - Int.toNat 6))) ++ ((p0.drop (Int.toNat 11)).take (Int.toNat 14 - Int.toNat 11))) ++ ((p0.drop (Int.toNat 15)).take (Int.toNat (p0.length : Int) - Int.toNat 15))))] _ _ _ (by kernel_rfl) ?_
 obtain ⟨x6, hx, h⟩ := bind_some h
 have hcall := wagonnumber_Valid_w ((((((p0.drop (Int.toNat (0 : Int))).take (Int.toNat 2 - Int.toNat (0 : Int))) ++ ((p0.drop (Int.toNat 3)).take (Int.toNat 5 - Int.toNat 3))) ++ ((p0.drop (Int.toNat 6)).take (Int.toNat 10 - Int.toNat 6))) ++ ((p0.drop (Int.toNat 11)).take (Int.toNat 14 - Int.toNat 11))) ++ ((p0.drop (Int.toNat 15)).take (Int.toNat (p0.length : Int) - Int.toNat 15))) _ (w).drew hx
 refine x_call 11 #[] #[] [Vs ((((((p0.drop (Int.toNat (0 : Int))).take (Int.toNat 2 - Int.toNat (0 : Int))) ++ ((p0.drop (Int.toNat 3)).take (Int.toNat 5 - Int.toNat 3))) ++ ((p0.drop (Int.toNat 6)).take (Int.toNat 10 - Int.toNat 6))) ++ ((p0.drop (Int.toNat 11)).take (Int.toNat 14 - Int.toNat 11))) ++ ((p0.drop (Int.toNat 15)).take (Int.toNat (p0.length : Int) - Int.toNat 15)))] _ rfl rfl rfl rfl hcall ?_
 rintro v w7 ⟨rfl, he7⟩
 clear hcall hx
 refine inl1 ?_
 replace hms := hms.ev he7
 replace hev := hev.ext he7
 refine x_pure 1 [(5, Vi x6)] _ _ _ (by kernel_rfl) ?_
 refine x_ek ?_
 refine c_sp ?_
 refine x_pure 1 [(45, Vi x6)] _ _ _ (by kernel_rfl) ?_
 refine x_ek ?_
 refine c_block ?_
 refine c_sp ?_
 refine x_pure 2 [(48, .bool (x6 == 0)), (47, .bool (x6 == 0))] _ _ _ (by kernel_rfl) ?_
 refine x_ek ?_
 refine c_cond (x6 == 0) rfl (fun hb => ?_) (fun hb => ?_)
 · replace h := ite_t hb h
   refine c_sp ?_
   refine x_pure 3 [(49, Vs ((((((p0.drop (Int.toNat (0 : Int))).take (Int.toNat 2 - Int.toNat (0 : Int))) ++ ((p0.drop (Int.toNat 3)).take (Int.toNat 5 - Int.toNat 3))) ++ ((p0.drop (Int.toNat 6)).take (Int.toNat 10 - Int.toNat 6))) ++ ((p0.drop (Int.toNat 11)).take (Int.toNat 14 - Int.toNat 11))) ++ ((p0.drop (Int.toNat 15)).take (Int.toNat (p0.length : Int) - Int.toNat 15)))), (2, Vs ((((((p0.drop (Int.toNat (0 : Int))).take (Int.toNat 2 - Int.toNat (0 : Int))) ++ ((p0.drop (Int.toNat 3)).take (Int.toNat 5 - Int.toNat 3))) ++ ((p0.drop (Int.toNat 6)).take (Int.toNat 10 - Int.toNat 6))) ++ ((p0.drop (Int.toNat 11)).take (Int.toNat 14 - Int.toNat 11))) ++ ((p0.drop (Int.toNat 15)).take (Int.toNat (p0.length : Int) - Int.toNat 15)))), (3, Vi 0)] _ _ _ (by kernel_rfl) ?_
   refine x_ek ?_
   refine c_ret ?_
   refine k_block_ret ?_
   refine r_ret (r_vals [Vs ((((((p0.drop (Int.toNat (0 : Int))).take (Int.toNat 2 - Int.toNat (0 : Int))) ++ ((p0.drop (Int.toNat 3)).take (Int.toNat 5 - Int.toNat 3))) ++ ((p0.drop (Int.toNat 6)).take (Int.toNat 10 - Int.toNat 6))) ++ ((p0.drop (Int.toNat 11)).take (Int.toNat 14 - Int.toNat 11))) ++ ((p0.drop (Int.toNat 15)).take (Int.toNat (p0.length : Int) - Int.toNat 15))), Vi 0] ⟨rfl, rfl, trivial⟩ ?_)
   have hx := some_inj h
   subst hx
   exact ⟨rfl, hev⟩
 replace h := ite_f hb h
 refine c_sp ?_
 refine x_pure 2 [(51, .bool (x6 == 11)), (50, .bool (x6 == 11))] _ _ _ (by kernel_rfl) ?_
 refine x_ek ?_
 refine c_cond (x6 == 11) rfl (fun hb => ?_) (fun hb => ?_)
 · replace h := ite_t hb h
   refine c_sp ?_
   refine x_pure 2 [(2, Vs ([] : List UInt8)), (3, Vi 6)] _ _ _ (by kernel_rfl) ?_
   refine x_ek ?_
   refine c_ret ?_
   refine k_block_ret ?_
   refine r_ret (r_vals [Vs ([] : List UInt8), Vi 6] ⟨rfl, rfl, trivial⟩ ?_)
   have hx := some_inj h
   subst hx
   exact ⟨rfl, hev⟩
 replace h := ite_f hb h
 refine c_sp ?_
 refine x_pure 3 [(46, Vi x6), (2, Vs ([] : List UInt8)), (3, Vi x6)] _ _ _ (by kernel_rfl) ?_
 refine x_ek ?_
 refine c_ret ?_
 refine k_block_ret ?_
 refine r_ret (r_vals [Vs ([] : List UInt8), Vi x6] ⟨rfl, rfl, trivial⟩ ?_)
 have hx := some_inj h
 subst hx
 exact ⟨rfl, hev⟩
end Go.Proofs.Yteimkmjnjnaifaa
