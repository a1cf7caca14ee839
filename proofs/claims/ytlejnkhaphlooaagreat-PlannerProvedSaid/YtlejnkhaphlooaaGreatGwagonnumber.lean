
/- Walks, printed by program: each function returns what the partial function of the same name returns. Conditions: those of each theorem. -/
import Derived.Test.YtlejnkhaphlooaaGreatGT
set_option linter.unusedVariables false
set_option linter.unusedSimpArgs false
set_option maxRecDepth 4000
namespace Go.Proofs.YtlejnkhaphlooaaGreat
open Go Go.V Go.Proofs
def wagonnumber_digits_L2 (p0 : List UInt8) (s : Int) : Option (Step Int (Unit ⊕ Unit)) :=
match s with
| i_s5_l2 =>
(if (decide (i_s5_l2 < (p0.length : Int))) = true then
((sAt p0 i_s5_l2).bind fun x4 =>
(if (decide (x4 < 48)) = true then
some (.done (.inl ()))
else
((sAt p0 i_s5_l2).bind fun x5 =>
(if (decide (x5 > 57)) = true then
some (.done (.inl ()))
else
some (.next (IntKind.i64.wrap (i_s5_l2 + 1)))))))
else
some (.done (.inr ())))
def wagonnumber_digits (p0 : List UInt8) (p1 : Int) : Option Bool :=
((loop (wagonnumber_digits_L2 p0) 0).bind fun d => match d with
| (.inl _) => some false
| (.inr _) => some ((p0.length : Int) == p1))
theorem wagonnumber_digits_w (p0 : List UInt8) (p1 : Int) (r : Bool) (w : World) (h : wagonnumber_digits p0 p1 = some r) : CallVC Tryz.prog 126 [Vs p0, Vi p1] w fun v w' => v = .bool r ∧ Ev [] w w' := by
 refine calls_vc hmx Tryz.func126 (by kernel_rfl) rfl (rs := [.tmp 4]) rfl (by kernel_rfl) (args := [Vs p0, Vi p1]) rfl ?_
 have hev : Ev [] w w := Ev.refl _ _
 have hms : MS w [[]] := ⟨List.pairwise_singleton _ _, fun l hl b hb => by simp only [List.mem_singleton] at hl; subst hl; cases hb⟩
 have hfr : FR w.heap.size [] := FR.nil _
 refine c_sp (x_u 1 [(4, .bool false)] (x_ek (c_seq (c_sp (x_u 1 [(5, Vi 0)] ?_)))))
 refine x_ek (c_block ?_)
 obtain ⟨d2, hd2, h2⟩ := bind_some h
 obtain ⟨m2, hd2⟩ := loop_some hd2
 refine c_loop (loop_rule hmx (σ := Nat × Int) (fun s => match s with | (_, i_s5_l2) => [(0, Vs p0), (1, Vi p1), (5, Vi i_s5_l2)]) (fun s w' => match s with | (m, i_s5_l2) => loopN (wagonnumber_digits_L2 p0) m i_s5_l2 = some d2 ∧ Ev [] w w' ∧ MS w' [[]] ∧ FR w.heap.size []) (fun s => s.1) (m2, 0) ⟨rfl, rfl, rfl, trivial⟩ ⟨hd2, hev, hms, hfr⟩ ?_)
 rintro ⟨m2, i_s5_l2⟩ J wl2 ⟨hn2, hev, hms, hfr⟩
 rcases m2 with _ | m2
 · exact (loopN_zero hn2).elim
 obtain ⟨t2, h, hn2⟩ := bind_some hn2
 refine c_seq (c_sp (x_u 2 [(6, Vi i_s5_l2), (7, Vs p0)] (x_len (vs := [Vs p0]) (Vi (p0.length : Int)) rfl rfl rfl (reads_slen tstr9 _) (x_u 1 [(9, .bool (decide (i_s5_l2 < (p0.length : Int))))] (x_ek ?_)))))
 refine c_nm [(0, Vs p0), (1, Vi p1), (5, Vi i_s5_l2), (9, .bool (decide (i_s5_l2 < (p0.length : Int))))] (fun J => ?_)
 refine c_if (decide (i_s5_l2 < (p0.length : Int))) rfl h (fun h => ?_) (fun h => ?_)
 · refine c_skip (k_then (c_seq (c_block (c_sp (x_u 2 [(12, Vs p0), (13, Vi i_s5_l2)] ?_)))))
   obtain ⟨x4, hx4, h⟩ := bind_some h
   refine x_index (xv := Vs p0) (yv := Vi i_s5_l2) (.int .u8 x4) rfl rfl rfl rfl (reads_sindex tstr9 hx4) (x_u 2 [(15, .bool (decide (x4 < 48))), (16, .bool (decide (x4 < 48)))] (x_if 16 (decide (x4 < 48)) rfl h (fun h => ?_) (fun h => ?_)))
   · refine x_u 5 [(17, undef), (18, undef), (19, undef), (20, undef), (21, .bool true)] (x_ek (c_true rfl (c_sp (x_u 1 [(4, .bool false)] (x_ek ?_)))))
     refine c_ret (k_block_ret (k_then_ret ?_))
     obtain rfl := some_inj h
     have hy := some_inj hn2
     subst hy
     replace h := h2
     refine k_then_ret (k_block_ret (k_then_ret (r_ret (r_vals [.bool false] ⟨rfl, trivial⟩ ?_))))
     obtain rfl := some_inj h
     exact ⟨rfl, hev⟩
   refine x_u 2 [(17, Vs p0), (18, Vi i_s5_l2)] ?_
   obtain ⟨x5, hx5, h⟩ := bind_some h
   refine x_index (xv := Vs p0) (yv := Vi i_s5_l2) (.int .u8 x5) rfl rfl rfl rfl (reads_sindex tstr9 hx5) (x_u 2 [(20, .bool (decide (x5 > 57))), (21, .bool (decide (x5 > 57)))] (x_ek (c_if (decide (x5 > 57)) rfl h (fun h => ?_) (fun h => ?_))))
   · refine c_sp (x_u 1 [(4, .bool false)] (x_ek (c_nm [(4, .bool false)] (fun J => ?_))))
     refine c_ret (k_block_ret (k_then_ret ?_))
     obtain rfl := some_inj h
     have hy := some_inj hn2
     subst hy
     replace h := h2
     refine k_then_ret (k_block_ret (k_then_ret (r_ret (r_vals [.bool false] ⟨rfl, trivial⟩ ?_))))
     obtain rfl := some_inj h
     exact ⟨rfl, hev⟩
   refine c_skip (k_block (k_then (c_plain (x_u 3 [(10, Vi i_s5_l2), (11, Vi (IntKind.i64.wrap (i_s5_l2 + 1))), (5, Vi (IntKind.i64.wrap (i_s5_l2 + 1)))] (x_end rfl ?_)))))
   obtain rfl := some_inj h
   exact k_then ⟨(m2, IntKind.i64.wrap (i_s5_l2 + 1)), ⟨rfl, rfl, rfl, trivial⟩, ⟨hn2, hev, hms, hfr⟩, Nat.lt_succ_self _⟩
 refine c_exit (k_then_exit ?_)
 obtain rfl := some_inj h
 have hy := some_inj hn2
 subst hy
 replace h := h2
 refine k_then_exit (k_block_in (k_then (c_nm [(0, Vs p0), (1, Vi p1)] (fun J => ?_))))
 refine c_sp (x_u 1 [(22, Vs p0)] (x_len (vs := [Vs p0]) (Vi (p0.length : Int)) rfl rfl rfl (reads_slen tstr9 _) (x_u 3 [(24, Vi p1), (25, .bool ((p0.length : Int) == p1)), (4, .bool ((p0.length : Int) == p1))] (x_ek (c_ret ?_)))))
 refine r_ret (r_vals [.bool ((p0.length : Int) == p1)] ⟨rfl, trivial⟩ ?_)
 obtain rfl := some_inj h
 exact ⟨rfl, hev⟩
def wagonnumber_sum_L1 (p0 : List UInt8) (s : Int × Int) : Option (Step (Int × Int) Int) :=
match s with
| (total_s3_l1, i_s4_l1) =>
(if (decide (i_s4_l1 < (p0.length : Int))) = true then
((sAt p0 i_s4_l1).bind fun x3 =>
(if ((Int.tmod i_s4_l1 2) == 0) = true then
(if (decide ((IntKind.i64.wrap ((IntKind.i64.wrap (IntKind.u8.wrap (x3 - 48))) * 2)) > 9)) = true then
some (.next (IntKind.i64.wrap (total_s3_l1 + (IntKind.i64.wrap ((IntKind.i64.wrap ((IntKind.i64.wrap (IntKind.u8.wrap (x3 - 48))) * 2)) - 9))), IntKind.i64.wrap (i_s4_l1 + 1)))
else
some (.next (IntKind.i64.wrap (total_s3_l1 + (IntKind.i64.wrap ((IntKind.i64.wrap (IntKind.u8.wrap (x3 - 48))) * 2))), IntKind.i64.wrap (i_s4_l1 + 1))))
else
some (.next (IntKind.i64.wrap (total_s3_l1 + (IntKind.i64.wrap (IntKind.u8.wrap (x3 - 48)))), IntKind.i64.wrap (i_s4_l1 + 1)))))
else
some (.done total_s3_l1))
def wagonnumber_sum (p0 : List UInt8) : Option Int :=
((loop (wagonnumber_sum_L1 p0) (0, 0)).bind fun d => match d with
| total_s3_x1 => some total_s3_x1)
theorem wagonnumber_sum_w (p0 : List UInt8) (r : Int) (w : World) (h : wagonnumber_sum p0 = some r) : CallVC Tryz.prog 134 [Vs p0] w fun v w' => v = Vi r ∧ Ev [] w w' := by
 refine calls_vc hmx Tryz.func134 (by kernel_rfl) rfl (rs := [.tmp 2]) rfl (by kernel_rfl) (args := [Vs p0]) rfl ?_
 have hev : Ev [] w w := Ev.refl _ _
 have hms : MS w [[]] := ⟨List.pairwise_singleton _ _, fun l hl b hb => by simp only [List.mem_singleton] at hl; subst hl; cases hb⟩
 have hfr : FR w.heap.size [] := FR.nil _
 refine c_sp (x_u 1 [(2, Vi 0)] (x_ek (c_sp (x_u 1 [(3, Vi 0)] (x_ek ?_)))))
 refine c_seq (c_sp (x_u 1 [(4, Vi 0)] (x_ek (c_block ?_))))
 obtain ⟨d1, hd1, h1⟩ := bind_some h
 obtain ⟨m1, hd1⟩ := loop_some hd1
 refine c_loop (loop_rule hmx (σ := Nat × Int × Int) (fun s => match s with | (_, total_s3_l1, i_s4_l1) => [(0, Vs p0), (3, Vi total_s3_l1), (4, Vi i_s4_l1)]) (fun s w' => match s with | (m, total_s3_l1, i_s4_l1) => loopN (wagonnumber_sum_L1 p0) m (total_s3_l1, i_s4_l1) = some d1 ∧ Ev [] w w' ∧ MS w' [[]] ∧ FR w.heap.size []) (fun s => s.1) (m1, 0, 0) ⟨rfl, rfl, rfl, trivial⟩ ⟨hd1, hev, hms, hfr⟩ ?_)
 rintro ⟨m1, total_s3_l1, i_s4_l1⟩ J wl1 ⟨hn1, hev, hms, hfr⟩
 rcases m1 with _ | m1
 · exact (loopN_zero hn1).elim
 obtain ⟨t1, h, hn1⟩ := bind_some hn1
 refine c_seq (c_sp (x_u 2 [(6, Vi i_s4_l1), (7, Vs p0)] (x_len (vs := [Vs p0]) (Vi (p0.length : Int)) rfl rfl rfl (reads_slen tstr9 _) (x_u 1 [(9, .bool (decide (i_s4_l1 < (p0.length : Int))))] (x_ek ?_)))))
 refine c_nm [(0, Vs p0), (3, Vi total_s3_l1), (4, Vi i_s4_l1), (9, .bool (decide (i_s4_l1 < (p0.length : Int))))] (fun J => ?_)
 refine c_if (decide (i_s4_l1 < (p0.length : Int))) rfl h (fun h => ?_) (fun h => ?_)
 · refine c_skip (k_then (c_seq (c_block (c_sp (x_u 2 [(12, Vs p0), (13, Vi i_s4_l1)] ?_)))))
   obtain ⟨x3, hx3, h⟩ := bind_some h
   refine x_index (xv := Vs p0) (yv := Vi i_s4_l1) (.int .u8 x3) rfl rfl rfl rfl (reads_sindex tstr9 hx3) (x_u 1 [(15, .int .u8 (IntKind.u8.wrap (x3 - 48)))] (x_convert (Vi (IntKind.i64.wrap (IntKind.u8.wrap (x3 - 48)))) _ rfl rfl rfl (tcv5_3 (IntKind.u8.wrap (x3 - 48)) _) (inl1 (x_u 1 [(5, Vi (IntKind.i64.wrap (IntKind.u8.wrap (x3 - 48))))] (x_ek ?_)))))
   refine c_seq (c_sp (x_u 3 [(17, Vi i_s4_l1), (18, Vi (Int.tmod i_s4_l1 2)), (19, .bool ((Int.tmod i_s4_l1 2) == 0))] (x_ek (c_if ((Int.tmod i_s4_l1 2) == 0) rfl h (fun h => ?_) (fun h => ?_)))))
   · refine c_sp (x_u 3 [(20, Vi (IntKind.i64.wrap (IntKind.u8.wrap (x3 - 48)))), (21, Vi (IntKind.i64.wrap ((IntKind.i64.wrap (IntKind.u8.wrap (x3 - 48))) * 2))), (5, Vi (IntKind.i64.wrap ((IntKind.i64.wrap (IntKind.u8.wrap (x3 - 48))) * 2)))] (x_ek (c_nm [(0, Vs p0), (3, Vi total_s3_l1), (4, Vi i_s4_l1), (5, Vi (IntKind.i64.wrap ((IntKind.i64.wrap (IntKind.u8.wrap (x3 - 48))) * 2)))] (fun J => ?_))))
     refine c_sp (x_u 2 [(22, Vi (IntKind.i64.wrap ((IntKind.i64.wrap (IntKind.u8.wrap (x3 - 48))) * 2))), (23, .bool (decide ((IntKind.i64.wrap ((IntKind.i64.wrap (IntKind.u8.wrap (x3 - 48))) * 2)) > 9)))] (x_ek (c_if (decide ((IntKind.i64.wrap ((IntKind.i64.wrap (IntKind.u8.wrap (x3 - 48))) * 2)) > 9)) rfl h (fun h => ?_) (fun h => ?_))))
     · refine c_plain (x_u 3 [(24, Vi (IntKind.i64.wrap ((IntKind.i64.wrap (IntKind.u8.wrap (x3 - 48))) * 2))), (25, Vi (IntKind.i64.wrap ((IntKind.i64.wrap ((IntKind.i64.wrap (IntKind.u8.wrap (x3 - 48))) * 2)) - 9))), (5, Vi (IntKind.i64.wrap ((IntKind.i64.wrap ((IntKind.i64.wrap (IntKind.u8.wrap (x3 - 48))) * 2)) - 9)))] (x_ek (c_plain (x_u 4 [(26, Vi total_s3_l1), (27, Vi (IntKind.i64.wrap ((IntKind.i64.wrap ((IntKind.i64.wrap (IntKind.u8.wrap (x3 - 48))) * 2)) - 9))), (28, Vi (IntKind.i64.wrap (total_s3_l1 + (IntKind.i64.wrap ((IntKind.i64.wrap ((IntKind.i64.wrap (IntKind.u8.wrap (x3 - 48))) * 2)) - 9))))), (3, Vi (IntKind.i64.wrap (total_s3_l1 + (IntKind.i64.wrap ((IntKind.i64.wrap ((IntKind.i64.wrap (IntKind.u8.wrap (x3 - 48))) * 2)) - 9)))))] (x_end rfl ?_)))))
       refine k_block (k_then (c_plain (x_u 3 [(10, Vi i_s4_l1), (11, Vi (IntKind.i64.wrap (i_s4_l1 + 1))), (4, Vi (IntKind.i64.wrap (i_s4_l1 + 1)))] (x_end rfl ?_))))
       obtain rfl := some_inj h
       exact k_then ⟨(m1, IntKind.i64.wrap (total_s3_l1 + (IntKind.i64.wrap ((IntKind.i64.wrap ((IntKind.i64.wrap (IntKind.u8.wrap (x3 - 48))) * 2)) - 9))), IntKind.i64.wrap (i_s4_l1 + 1)), ⟨rfl, rfl, rfl, trivial⟩, ⟨hn1, hev, hms, hfr⟩, Nat.lt_succ_self _⟩
     refine c_skip (k_then (c_plain (x_u 4 [(26, Vi total_s3_l1), (27, Vi (IntKind.i64.wrap ((IntKind.i64.wrap (IntKind.u8.wrap (x3 - 48))) * 2))), (28, Vi (IntKind.i64.wrap (total_s3_l1 + (IntKind.i64.wrap ((IntKind.i64.wrap (IntKind.u8.wrap (x3 - 48))) * 2))))), (3, Vi (IntKind.i64.wrap (total_s3_l1 + (IntKind.i64.wrap ((IntKind.i64.wrap (IntKind.u8.wrap (x3 - 48))) * 2)))))] (x_end rfl (k_block ?_)))))
     refine k_then (c_plain (x_u 3 [(10, Vi i_s4_l1), (11, Vi (IntKind.i64.wrap (i_s4_l1 + 1))), (4, Vi (IntKind.i64.wrap (i_s4_l1 + 1)))] (x_end rfl ?_)))
     obtain rfl := some_inj h
     exact k_then ⟨(m1, IntKind.i64.wrap (total_s3_l1 + (IntKind.i64.wrap ((IntKind.i64.wrap (IntKind.u8.wrap (x3 - 48))) * 2))), IntKind.i64.wrap (i_s4_l1 + 1)), ⟨rfl, rfl, rfl, trivial⟩, ⟨hn1, hev, hms, hfr⟩, Nat.lt_succ_self _⟩
   refine c_skip (k_then (c_plain (x_u 4 [(26, Vi total_s3_l1), (27, Vi (IntKind.i64.wrap (IntKind.u8.wrap (x3 - 48)))), (28, Vi (IntKind.i64.wrap (total_s3_l1 + (IntKind.i64.wrap (IntKind.u8.wrap (x3 - 48)))))), (3, Vi (IntKind.i64.wrap (total_s3_l1 + (IntKind.i64.wrap (IntKind.u8.wrap (x3 - 48))))))] (x_end rfl (k_block ?_)))))
   refine k_then (c_nm [(0, Vs p0), (3, Vi (IntKind.i64.wrap (total_s3_l1 + (IntKind.i64.wrap (IntKind.u8.wrap (x3 - 48)))))), (4, Vi i_s4_l1)] (fun J => ?_))
   refine c_plain (x_u 3 [(10, Vi i_s4_l1), (11, Vi (IntKind.i64.wrap (i_s4_l1 + 1))), (4, Vi (IntKind.i64.wrap (i_s4_l1 + 1)))] (x_end rfl ?_))
   obtain rfl := some_inj h
   exact k_then ⟨(m1, IntKind.i64.wrap (total_s3_l1 + (IntKind.i64.wrap (IntKind.u8.wrap (x3 - 48)))), IntKind.i64.wrap (i_s4_l1 + 1)), ⟨rfl, rfl, rfl, trivial⟩, ⟨hn1, hev, hms, hfr⟩, Nat.lt_succ_self _⟩
 refine c_exit (k_then_exit ?_)
 obtain rfl := some_inj h
 have hy := some_inj hn1
 subst hy
 replace h := h1
 refine k_then_exit (k_block_in (k_then (c_nm [(3, Vi total_s3_l1)] (fun J => ?_))))
 refine c_sp (x_u 2 [(29, Vi total_s3_l1), (2, Vi total_s3_l1)] (x_ek (c_ret (r_ret (r_vals [Vi total_s3_l1] ⟨rfl, trivial⟩ ?_)))))
 obtain rfl := some_inj h
 exact ⟨rfl, hev⟩
def wagonnumber_check (p0 : List UInt8) : Option Int :=
((wagonnumber_sum p0).bind fun x1 =>
some (Int.tmod (IntKind.i64.wrap (10 - (Int.tmod x1 10))) 10))
theorem wagonnumber_check_w (p0 : List UInt8) (r : Int) (w : World) (h : wagonnumber_check p0 = some r) : CallVC Tryz.prog 127 [Vs p0] w fun v w' => v = Vi r ∧ Ev [] w w' := by
 refine calls_vc hmx Tryz.func127 (by kernel_rfl) rfl (rs := [.tmp 2]) rfl (by kernel_rfl) (args := [Vs p0]) rfl ?_
 have hev : Ev [] w w := Ev.refl _ _
 have hms : MS w [[]] := ⟨List.pairwise_singleton _ _, fun l hl b hb => by simp only [List.mem_singleton] at hl; subst hl; cases hb⟩
 refine c_sp (x_u 1 [(2, Vi 0)] (x_ek (c_sp (x_u 1 [(3, Vs p0)] ?_))))
 obtain ⟨x1, hx, h⟩ := bind_some h
 have hcall := wagonnumber_sum_w p0 _ w hx
 refine x_call 134 #[] #[] [Vs p0] _ rfl rfl rfl rfl hcall ?_
 rintro v w2 ⟨rfl, he2⟩
 clear hcall hx
 refine inl1 ?_
 replace hev := hev.ext he2
 refine x_u 4 [(5, Vi (Int.tmod x1 10)), (6, Vi (IntKind.i64.wrap (10 - (Int.tmod x1 10)))), (7, Vi (Int.tmod (IntKind.i64.wrap (10 - (Int.tmod x1 10))) 10)), (2, Vi (Int.tmod (IntKind.i64.wrap (10 - (Int.tmod x1 10))) 10))] (x_ek (c_ret (r_ret (r_vals [Vi (Int.tmod (IntKind.i64.wrap (10 - (Int.tmod x1 10))) 10)] ⟨rfl, trivial⟩ ?_))))
 obtain rfl := some_inj h
 exact ⟨rfl, hev⟩
def wagonnumber_Valid (p0 : List UInt8) : Option Int :=
((wagonnumber_digits p0 12).bind fun x2 =>
(if (!x2) = true then
some 11
else
((sAt p0 11).bind fun x4 =>
(if 0 ≤ ((0 : Int) : Int) ∧ ((0 : Int) : Int) ≤ (11 : Int) ∧ (11 : Int) ≤ (p0.length : Int) then
((wagonnumber_check ((p0.drop (Int.toNat (0 : Int))).take (Int.toNat 11 - Int.toNat (0 : Int)))).bind fun x5 =>
(if ((IntKind.i64.wrap (IntKind.u8.wrap (x4 - 48))) != x5) = true then
some 9
else
some 0))
else none))))
theorem wagonnumber_Valid_w (p0 : List UInt8) (r : Int) (w : World) (h : wagonnumber_Valid p0 = some r) : CallVC Tryz.prog 105 [Vs p0] w fun v w' => v = Vi r ∧ Ev [] w w' := by
 refine calls_vc hmx Tryz.func105 (by kernel_rfl) rfl (rs := [.tmp 2]) rfl (by kernel_rfl) (args := [Vs p0]) rfl ?_
 have hev : Ev [] w w := Ev.refl _ _
 have hms : MS w [[]] := ⟨List.pairwise_singleton _ _, fun l hl b hb => by simp only [List.mem_singleton] at hl; subst hl; cases hb⟩
 refine c_sp (x_u 1 [(2, Vi 0)] (x_ek (c_seq (c_sp (x_u 1 [(3, Vs p0)] ?_)))))
 obtain ⟨x2, hx, h⟩ := bind_some h
 have hcall := wagonnumber_digits_w p0 12 _ w hx
 refine x_call 126 #[] #[] [Vs p0, Vi 12] _ rfl rfl rfl rfl hcall ?_
 rintro v w3 ⟨rfl, he3⟩
 clear hcall hx
 refine inl1 ?_
 replace hev := hev.ext he3
 refine x_u 1 [(5, .bool (!x2))] (x_ek (c_if (!x2) rfl h (fun h => ?_) (fun h => ?_)))
 · refine c_sp (x_u 1 [(2, Vi 11)] (x_ek (c_ret (k_then_ret (r_ret (r_vals [Vi 11] ⟨rfl, trivial⟩ ?_))))))
   obtain rfl := some_inj h
   exact ⟨rfl, hev⟩
 refine c_skip (k_then (c_seq (c_seq (c_drawnp [] [(0, false), (1, false), (2, false), (4, false), (5, false)] (.alt 3 false (opsThen [(6, false), (7, false)] .stop) (.alt 6 false (opsThen [(3, false), (7, false)] .stop) .none_)) _ (by kernel_rfl) rfl ?_))))
 replace hev := hev.ext (Ev.drew w3)
 refine x_u 1 [(6, Vs p0)] ?_
 obtain ⟨x4, hx4, h⟩ := bind_some h
 refine x_index (xv := Vs p0) (yv := Vi 11) (.int .u8 x4) rfl rfl rfl rfl (reads_sindex tstr9 hx4) (x_u 2 [(8, .int .u8 (IntKind.u8.wrap (x4 - 48))), (10, Vs p0)] ?_)
 have hg := guard_l h
 replace h := guard_r h
 refine x_slice (xv := Vs p0) (lv := none) (hv := (some (Vi 11))) (mv := none) (Vs ((p0.drop (Int.toNat (0 : Int))).take (Int.toNat 11 - Int.toNat (0 : Int)))) rfl rfl rfl rfl rfl rfl (reads_scut tstr9 _ none (some 11) hg) (x_end rfl (t_alt _ rfl ?_ ?_))
 · refine x_convert (Vi (IntKind.i64.wrap (IntKind.u8.wrap (x4 - 48)))) _ rfl rfl rfl (tcv5_3 (IntKind.u8.wrap (x4 - 48)) _) (⟨.inr (Ev.refl _ _), ?_⟩)
   obtain ⟨x5, hx, h⟩ := bind_some h
   have hcall := wagonnumber_check_w ((p0.drop (Int.toNat (0 : Int))).take (Int.toNat 11 - Int.toNat (0 : Int))) _ (w3).drew hx
   refine x_call 127 #[] #[] [Vs ((p0.drop (Int.toNat (0 : Int))).take (Int.toNat 11 - Int.toNat (0 : Int)))] _ rfl rfl rfl rfl hcall ?_
   rintro v w6 ⟨rfl, he6⟩
   clear hcall hx
   refine ⟨.inr he6, ?_⟩
   replace hev := hev.ext he6
   refine x_u 1 [(13, .bool ((IntKind.i64.wrap (IntKind.u8.wrap (x4 - 48))) != x5))] (x_end rfl (t_stop (k_then (c_if ((IntKind.i64.wrap (IntKind.u8.wrap (x4 - 48))) != x5) rfl h (fun h => ?_) (fun h => ?_)))))
   · refine c_sp (x_u 1 [(2, Vi 9)] (x_ek (c_nm [(2, Vi 9)] (fun J => ?_))))
     refine c_ret (k_then_ret (r_ret (r_vals [Vi 9] ⟨rfl, trivial⟩ ?_)))
     obtain rfl := some_inj h
     exact ⟨rfl, hev⟩
   refine c_skip (k_then (c_norm [] trivial (fun J => ?_)))
   refine c_sp (x_u 1 [(2, Vi 0)] (x_ek (c_ret (r_ret (r_vals [Vi 0] ⟨rfl, trivial⟩ ?_)))))
   obtain rfl := some_inj h
   exact ⟨rfl, hev⟩
 refine t_alt _ rfl ?_ ?_
 · obtain ⟨x5, hx, h⟩ := bind_some h
   have hcall := wagonnumber_check_w ((p0.drop (Int.toNat (0 : Int))).take (Int.toNat 11 - Int.toNat (0 : Int))) _ (w3).drew hx
   refine x_call 127 #[] #[] [Vs ((p0.drop (Int.toNat (0 : Int))).take (Int.toNat 11 - Int.toNat (0 : Int)))] _ rfl rfl rfl rfl hcall ?_
   rintro v w6 ⟨rfl, he6⟩
   clear hcall hx
   refine ⟨.inr he6, ?_⟩
   replace hev := hev.ext he6
   refine x_convert (Vi (IntKind.i64.wrap (IntKind.u8.wrap (x4 - 48)))) _ rfl rfl rfl (tcv5_3 (IntKind.u8.wrap (x4 - 48)) _) (⟨.inr (Ev.refl _ _), ?_⟩)
   refine x_u 1 [(13, .bool ((IntKind.i64.wrap (IntKind.u8.wrap (x4 - 48))) != x5))] (x_end rfl (t_stop (k_then (c_if ((IntKind.i64.wrap (IntKind.u8.wrap (x4 - 48))) != x5) rfl h (fun h => ?_) (fun h => ?_)))))
   · refine c_sp (x_u 1 [(2, Vi 9)] (x_ek (c_nm [(2, Vi 9)] (fun J => ?_))))
     refine c_ret (k_then_ret (r_ret (r_vals [Vi 9] ⟨rfl, trivial⟩ ?_)))
     obtain rfl := some_inj h
     exact ⟨rfl, hev⟩
   refine c_skip (k_then (c_norm [] trivial (fun J => ?_)))
   refine c_sp (x_u 1 [(2, Vi 0)] (x_ek (c_ret (r_ret (r_vals [Vi 0] ⟨rfl, trivial⟩ ?_)))))
   obtain rfl := some_inj h
   exact ⟨rfl, hev⟩
 exact t_none
def wagonnumber_Kind_J6 (x4 : Int) (t15__s15_j6 : Bool) : Option (Int × Int) :=
(if t15__s15_j6 = true then
some (2, 0)
else
(if (x4 == 57) = true then
some (3, 0)
else
some (0, 0)))
def wagonnumber_Kind_J5 (x4 : Int) (t12__s12_j5 : Bool) : Option (Int × Int) :=
(if t12__s12_j5 = true then
some (1, 0)
else
(if (x4 == 50) = true then
wagonnumber_Kind_J6 x4 true
else
wagonnumber_Kind_J6 x4 (x4 == 52)))
def wagonnumber_Kind (p0 : List UInt8) : Option (Int × Int) :=
((wagonnumber_Valid p0).bind fun x2 =>
(if (x2 != 0) = true then
some (0, x2)
else
((sAt p0 4).bind fun x4 =>
(if (x4 == 55) = true then
wagonnumber_Kind_J5 x4 true
else
wagonnumber_Kind_J5 x4 (x4 == 56)))))
theorem wagonnumber_Kind_w (p0 : List UInt8) (r : Int × Int) (w : World) (h : wagonnumber_Kind p0 = some r) : CallVC Tryz.prog 72 [Vs p0] w fun v w' => v = .tuple #[Vi r.1, Vi r.2] ∧ Ev [] w w' := by
 refine calls_vc hmx Tryz.func72 (by kernel_rfl) rfl (rs := [.tmp 2, .tmp 3]) rfl (by kernel_rfl) (args := [Vs p0]) rfl ?_
 have hev : Ev [] w w := Ev.refl _ _
 have hms : MS w [[]] := ⟨List.pairwise_singleton _ _, fun l hl b hb => by simp only [List.mem_singleton] at hl; subst hl; cases hb⟩
 have hfr : FR w.heap.size [] := FR.nil _
 refine c_sp (x_u 2 [(2, Vi 0), (3, Vi 0)] (x_ek (c_seq (c_sp (x_u 1 [(5, Vs p0)] ?_)))))
 obtain ⟨x2, hx, h⟩ := bind_some h
 have hcall := wagonnumber_Valid_w p0 _ w hx
 refine x_call 105 #[] #[] [Vs p0] _ rfl rfl rfl rfl hcall ?_
 rintro v w3 ⟨rfl, he3⟩
 clear hcall hx
 refine inl1 ?_
 replace hms := hms.ev he3
 replace hev := hev.ext he3
 refine x_u 1 [(4, Vi x2)] (x_ek (c_sp (x_u 2 [(7, Vi x2), (8, .bool (x2 != 0))] (x_ek (c_if (x2 != 0) rfl h (fun h => ?_) (fun h => ?_))))))
 · refine c_sp (x_u 3 [(9, Vi x2), (2, Vi 0), (3, Vi x2)] (x_ek (c_ret (k_then_ret (r_ret (r_vals [Vi 0, Vi x2] ⟨rfl, rfl, trivial⟩ ?_))))))
   obtain rfl := some_inj h
   exact ⟨rfl, hev⟩
 refine c_skip (k_then (c_seq (c_sp (x_u 1 [(10, Vs p0)] ?_))))
 obtain ⟨x4, hx4, h⟩ := bind_some h
 refine x_index (xv := Vs p0) (yv := Vi 4) (.int .u8 x4) rfl rfl rfl rfl (reads_sindex tstr9 hx4) (x_ek (c_block (c_join (σ := Bool) (fun s => match s with | t12__s12_j5 => [(11, .int .u8 x4), (12, .bool t12__s12_j5)]) (fun s w' => match s with | t12__s12_j5 => wagonnumber_Kind_J5 x4 t12__s12_j5 = some r ∧ Ev [] w w' ∧ MS w' [[]] ∧ FR w.heap.size []) ?_ ?_)))
 · refine c_sp (x_u 2 [(13, .bool (x4 == 55)), (12, .bool (x4 == 55))] (x_ek (c_if (x4 == 55) rfl h (fun h => ?_) (fun h => ?_))))
   · refine c_skip ?_
     exact k_then ⟨true, ⟨rfl, rfl, trivial⟩, h, hev, hms, hfr⟩
   refine c_plain (x_u 2 [(14, .bool (x4 == 56)), (12, .bool (x4 == 56))] (x_end rfl ?_))
   exact k_then ⟨x4 == 56, ⟨rfl, rfl, trivial⟩, h, hev, hms, hfr⟩
 rintro t12__s12_j5 J wj5 ⟨h, hev, hms, hfr⟩
 refine c_if t12__s12_j5 rfl h (fun h => ?_) (fun h => ?_)
 · refine c_sp (x_u 2 [(2, Vi 1), (3, Vi 0)] (x_ek (c_nm [(2, Vi 1), (3, Vi 0)] (fun J => ?_))))
   refine c_ret (k_block_ret (k_then_ret (r_ret (r_vals [Vi 1, Vi 0] ⟨rfl, rfl, trivial⟩ ?_))))
   obtain rfl := some_inj h
   exact ⟨rfl, hev⟩
 refine c_join (σ := Bool) (fun s => match s with | t15__s15_j6 => [(11, .int .u8 x4), (15, .bool t15__s15_j6)]) (fun s w' => match s with | t15__s15_j6 => wagonnumber_Kind_J6 x4 t15__s15_j6 = some r ∧ Ev [] w w' ∧ MS w' [[]] ∧ FR w.heap.size []) ?_ ?_
 · refine c_sp (x_u 2 [(16, .bool (x4 == 50)), (15, .bool (x4 == 50))] (x_ek (c_nm [(11, .int .u8 x4), (15, .bool (x4 == 50))] (fun J => ?_))))
   refine c_if (x4 == 50) rfl h (fun h => ?_) (fun h => ?_)
   · refine c_skip ?_
     exact k_then ⟨true, ⟨rfl, rfl, trivial⟩, h, hev, hms, hfr⟩
   refine c_plain (x_u 2 [(17, .bool (x4 == 52)), (15, .bool (x4 == 52))] (x_end rfl ?_))
   exact k_then ⟨x4 == 52, ⟨rfl, rfl, trivial⟩, h, hev, hms, hfr⟩
 rintro t15__s15_j6 J wj6 ⟨h, hev, hms, hfr⟩
 refine c_if t15__s15_j6 rfl h (fun h => ?_) (fun h => ?_)
 · refine c_sp (x_u 2 [(2, Vi 2), (3, Vi 0)] (x_ek (c_nm [(2, Vi 2), (3, Vi 0)] (fun J => ?_))))
   refine c_ret (k_block_ret (k_then_ret (r_ret (r_vals [Vi 2, Vi 0] ⟨rfl, rfl, trivial⟩ ?_))))
   obtain rfl := some_inj h
   exact ⟨rfl, hev⟩
 refine c_sp (x_u 2 [(19, .bool (x4 == 57)), (18, .bool (x4 == 57))] (x_ek (c_nm [(18, .bool (x4 == 57))] (fun J => ?_))))
 refine c_if (x4 == 57) rfl h (fun h => ?_) (fun h => ?_)
 · refine c_sp (x_u 2 [(2, Vi 3), (3, Vi 0)] (x_ek (c_ret (k_block_ret (k_then_ret ?_)))))
   refine r_ret (r_vals [Vi 3, Vi 0] ⟨rfl, rfl, trivial⟩ ?_)
   obtain rfl := some_inj h
   exact ⟨rfl, hev⟩
 refine c_skip (k_block (k_then (c_sp (x_u 2 [(2, Vi 0), (3, Vi 0)] (x_ek ?_)))))
 refine c_ret (r_ret (r_vals [Vi 0, Vi 0] ⟨rfl, rfl, trivial⟩ ?_))
 obtain rfl := some_inj h
 exact ⟨rfl, hev⟩
end Go.Proofs.YtlejnkhaphlooaaGreat
