
/- Walks, printed by program: each function returns what the partial function of the same name returns. Conditions: those of each theorem. -/
import Derived.Test.YtlejnkhaphlooaaGreatGT
import Derived.Test.YtlejnkhaphlooaaGreatGwagonnumber
set_option linter.unusedVariables false
set_option linter.unusedSimpArgs false
set_option maxRecDepth 4000
namespace Go.Proofs.YtlejnkhaphlooaaGreat
open Go Go.V Go.Proofs
def consist_axles (p0 : Int) : Option Int :=
(if (p0 == 2) = true then
some 2
else
(if (p0 == 3) = true then
some 6
else
some 4))
theorem consist_axles_w (p0 : Int) (r : Int) (w : World) (h : consist_axles p0 = some r) : CallVC Tryz.prog 73 [Vi p0] w fun v w' => v = Vi r ∧ Ev [] w w' := by
 refine calls_vc hmx Tryz.func73 (by kernel_rfl) rfl (rs := [.tmp 2]) rfl (by kernel_rfl) (args := [Vi p0]) rfl ?_
 have hev : Ev [] w w := Ev.refl _ _
 have hms : MS w [[]] := ⟨List.pairwise_singleton _ _, fun l hl b hb => by simp only [List.mem_singleton] at hl; subst hl; cases hb⟩
 refine c_sp (x_u 1 [(2, Vi 0)] (x_ek (c_seq (c_sp (x_u 1 [(3, Vi p0)] ?_)))))
 refine x_ek (c_block (c_sp (x_u 2 [(5, .bool (p0 == 2)), (4, .bool (p0 == 2))] (x_ek (c_if (p0 == 2) rfl h (fun h => ?_) (fun h => ?_))))))
 · refine c_sp (x_u 1 [(2, Vi 2)] (x_ek (c_ret (k_block_ret (k_then_ret ?_)))))
   refine r_ret (r_vals [Vi 2] ⟨rfl, trivial⟩ ?_)
   obtain rfl := some_inj h
   exact ⟨rfl, hev⟩
 refine c_sp (x_u 2 [(7, .bool (p0 == 3)), (6, .bool (p0 == 3))] (x_ek (c_if (p0 == 3) rfl h (fun h => ?_) (fun h => ?_))))
 · refine c_sp (x_u 1 [(2, Vi 6)] (x_ek (c_ret (k_block_ret (k_then_ret ?_)))))
   refine r_ret (r_vals [Vi 6] ⟨rfl, trivial⟩ ?_)
   obtain rfl := some_inj h
   exact ⟨rfl, hev⟩
 refine c_skip (k_block (k_then (c_sp (x_u 1 [(2, Vi 4)] (x_ek ?_)))))
 refine c_ret (r_ret (r_vals [Vi 4] ⟨rfl, trivial⟩ ?_))
 obtain rfl := some_inj h
 exact ⟨rfl, hev⟩
def consist_name_L2 (p0 : List UInt8) (s : Int) : Option (Step Int (Unit ⊕ Unit)) :=
match s with
| i_s3_l2 =>
(if (decide (i_s3_l2 < (p0.length : Int))) = true then
((sAt p0 i_s3_l2).bind fun x4 =>
(if (decide (x4 < 97)) = true then
(if (decide (x4 < 48)) = true then
some (.done (.inl ()))
else
(if (decide (x4 > 57)) = true then
some (.done (.inl ()))
else
some (.next (IntKind.i64.wrap (i_s3_l2 + 1)))))
else
(if (decide (x4 > 122)) = true then
(if (decide (x4 < 48)) = true then
some (.done (.inl ()))
else
(if (decide (x4 > 57)) = true then
some (.done (.inl ()))
else
some (.next (IntKind.i64.wrap (i_s3_l2 + 1)))))
else
some (.next (IntKind.i64.wrap (i_s3_l2 + 1))))))
else
some (.done (.inr ())))
def consist_name (p0 : List UInt8) : Option Bool :=
((loop (consist_name_L2 p0) 0).bind fun d => match d with
| (.inl _) => some false
| (.inr _) => (if (decide ((p0.length : Int) > 0)) = true then
some (decide ((p0.length : Int) ≤ 12))
else
some false))
theorem consist_name_w (p0 : List UInt8) (r : Bool) (w : World) (h : consist_name p0 = some r) : CallVC Tryz.prog 74 [Vs p0] w fun v w' => v = .bool r ∧ Ev [] w w' := by
 refine calls_vc hmx Tryz.func74 (by kernel_rfl) rfl (rs := [.tmp 2]) rfl (by kernel_rfl) (args := [Vs p0]) rfl ?_
 have hev : Ev [] w w := Ev.refl _ _
 have hms : MS w [[]] := ⟨List.pairwise_singleton _ _, fun l hl b hb => by simp only [List.mem_singleton] at hl; subst hl; cases hb⟩
 have hfr : FR w.heap.size [] := FR.nil _
 refine c_sp (x_u 1 [(2, .bool false)] (x_ek (c_seq (c_sp (x_u 1 [(3, Vi 0)] ?_)))))
 refine x_ek (c_block ?_)
 obtain ⟨d2, hd2, h2⟩ := bind_some h
 obtain ⟨m2, hd2⟩ := loop_some hd2
 refine c_loop (loop_rule hmx (σ := Nat × Int) (fun s => match s with | (_, i_s3_l2) => [(0, Vs p0), (3, Vi i_s3_l2)]) (fun s w' => match s with | (m, i_s3_l2) => loopN (consist_name_L2 p0) m i_s3_l2 = some d2 ∧ Ev [] w w' ∧ MS w' [[]] ∧ FR w.heap.size []) (fun s => s.1) (m2, 0) ⟨rfl, rfl, trivial⟩ ⟨hd2, hev, hms, hfr⟩ ?_)
 rintro ⟨m2, i_s3_l2⟩ J wl2 ⟨hn2, hev, hms, hfr⟩
 rcases m2 with _ | m2
 · exact (loopN_zero hn2).elim
 obtain ⟨t2, h, hn2⟩ := bind_some hn2
 refine c_seq (c_sp (x_u 2 [(5, Vi i_s3_l2), (6, Vs p0)] (x_len (vs := [Vs p0]) (Vi (p0.length : Int)) rfl rfl rfl (reads_slen tstr9 _) (x_u 1 [(8, .bool (decide (i_s3_l2 < (p0.length : Int))))] (x_ek ?_)))))
 refine c_nm [(0, Vs p0), (3, Vi i_s3_l2), (8, .bool (decide (i_s3_l2 < (p0.length : Int))))] (fun J => ?_)
 refine c_if (decide (i_s3_l2 < (p0.length : Int))) rfl h (fun h => ?_) (fun h => ?_)
 · refine c_skip (k_then (c_seq (c_block (c_sp (x_u 2 [(11, Vs p0), (12, Vi i_s3_l2)] ?_)))))
   obtain ⟨x4, hx4, h⟩ := bind_some h
   refine x_index (xv := Vs p0) (yv := Vi i_s3_l2) (.int .u8 x4) rfl rfl rfl rfl (reads_sindex tstr9 hx4) (x_u 1 [(4, .int .u8 x4)] (x_ek (c_sp (x_u 3 [(14, .int .u8 x4), (15, .bool (decide (x4 < 97))), (16, .bool (decide (x4 < 97)))] (x_if 16 (decide (x4 < 97)) rfl h (fun h => ?_) (fun h => ?_))))))
   · refine x_u 7 [(17, undef), (18, undef), (19, .bool true), (20, .bool true), (21, .int .u8 x4), (22, .bool (decide (x4 < 48))), (23, .bool (decide (x4 < 48)))] (x_if 23 (decide (x4 < 48)) rfl h (fun h => ?_) (fun h => ?_))
     · refine x_u 4 [(24, undef), (25, undef), (26, .bool true), (27, .bool true)] (x_ek (c_nm [(0, Vs p0), (3, Vi i_s3_l2), (27, .bool true)] (fun J => ?_)))
       refine c_true rfl (c_sp (x_u 1 [(2, .bool false)] (x_ek (c_ret (k_block_ret ?_)))))
       refine k_then_ret ?_
       obtain rfl := some_inj h
       have hy := some_inj hn2
       subst hy
       replace h := h2
       refine k_then_ret (k_block_ret (k_then_ret (r_ret (r_vals [.bool false] ⟨rfl, trivial⟩ ?_))))
       obtain rfl := some_inj h
       exact ⟨rfl, hev⟩
     refine x_u 4 [(24, .int .u8 x4), (25, .bool (decide (x4 > 57))), (26, .bool (decide (x4 > 57))), (27, .bool (decide (x4 > 57)))] (x_ek (c_nm [(0, Vs p0), (3, Vi i_s3_l2), (27, .bool (decide (x4 > 57)))] (fun J => ?_)))
     refine c_if (decide (x4 > 57)) rfl h (fun h => ?_) (fun h => ?_)
     · refine c_sp (x_u 1 [(2, .bool false)] (x_ek (c_ret (k_block_ret (k_then_ret ?_)))))
       obtain rfl := some_inj h
       have hy := some_inj hn2
       subst hy
       replace h := h2
       refine k_then_ret (k_block_ret (k_then_ret (r_ret (r_vals [.bool false] ⟨rfl, trivial⟩ ?_))))
       obtain rfl := some_inj h
       exact ⟨rfl, hev⟩
     refine c_skip (k_block (k_then (c_plain (x_u 3 [(9, Vi i_s3_l2), (10, Vi (IntKind.i64.wrap (i_s3_l2 + 1))), (3, Vi (IntKind.i64.wrap (i_s3_l2 + 1)))] (x_end rfl ?_)))))
     obtain rfl := some_inj h
     exact k_then ⟨(m2, IntKind.i64.wrap (i_s3_l2 + 1)), ⟨rfl, rfl, trivial⟩, ⟨hn2, hev, hms, hfr⟩, Nat.lt_succ_self _⟩
   refine x_u 4 [(17, .int .u8 x4), (18, .bool (decide (x4 > 122))), (19, .bool (decide (x4 > 122))), (20, .bool (decide (x4 > 122)))] (x_if 20 (decide (x4 > 122)) rfl h (fun h => ?_) (fun h => ?_))
   · refine x_u 3 [(21, .int .u8 x4), (22, .bool (decide (x4 < 48))), (23, .bool (decide (x4 < 48)))] (x_if 23 (decide (x4 < 48)) rfl h (fun h => ?_) (fun h => ?_))
     · refine x_u 4 [(24, undef), (25, undef), (26, .bool true), (27, .bool true)] (x_ek (c_nm [(0, Vs p0), (3, Vi i_s3_l2), (27, .bool true)] (fun J => ?_)))
       refine c_true rfl (c_sp (x_u 1 [(2, .bool false)] (x_ek (c_ret (k_block_ret ?_)))))
       refine k_then_ret ?_
       obtain rfl := some_inj h
       have hy := some_inj hn2
       subst hy
       replace h := h2
       refine k_then_ret (k_block_ret (k_then_ret (r_ret (r_vals [.bool false] ⟨rfl, trivial⟩ ?_))))
       obtain rfl := some_inj h
       exact ⟨rfl, hev⟩
     refine x_u 4 [(24, .int .u8 x4), (25, .bool (decide (x4 > 57))), (26, .bool (decide (x4 > 57))), (27, .bool (decide (x4 > 57)))] (x_ek (c_nm [(0, Vs p0), (3, Vi i_s3_l2), (27, .bool (decide (x4 > 57)))] (fun J => ?_)))
     refine c_if (decide (x4 > 57)) rfl h (fun h => ?_) (fun h => ?_)
     · refine c_sp (x_u 1 [(2, .bool false)] (x_ek (c_ret (k_block_ret (k_then_ret ?_)))))
       obtain rfl := some_inj h
       have hy := some_inj hn2
       subst hy
       replace h := h2
       refine k_then_ret (k_block_ret (k_then_ret (r_ret (r_vals [.bool false] ⟨rfl, trivial⟩ ?_))))
       obtain rfl := some_inj h
       exact ⟨rfl, hev⟩
     refine c_skip (k_block (k_then (c_plain (x_u 3 [(9, Vi i_s3_l2), (10, Vi (IntKind.i64.wrap (i_s3_l2 + 1))), (3, Vi (IntKind.i64.wrap (i_s3_l2 + 1)))] (x_end rfl ?_)))))
     obtain rfl := some_inj h
     exact k_then ⟨(m2, IntKind.i64.wrap (i_s3_l2 + 1)), ⟨rfl, rfl, trivial⟩, ⟨hn2, hev, hms, hfr⟩, Nat.lt_succ_self _⟩
   refine x_u 7 [(21, undef), (22, undef), (23, undef), (24, undef), (25, undef), (26, undef), (27, .bool false)] (x_ek (c_nm [(0, Vs p0), (3, Vi i_s3_l2), (27, .bool false)] (fun J => ?_)))
   refine c_false rfl (c_skip (k_block (k_then (c_plain (x_u 3 [(9, Vi i_s3_l2), (10, Vi (IntKind.i64.wrap (i_s3_l2 + 1))), (3, Vi (IntKind.i64.wrap (i_s3_l2 + 1)))] ?_)))))
   refine x_end rfl ?_
   obtain rfl := some_inj h
   exact k_then ⟨(m2, IntKind.i64.wrap (i_s3_l2 + 1)), ⟨rfl, rfl, trivial⟩, ⟨hn2, hev, hms, hfr⟩, Nat.lt_succ_self _⟩
 refine c_exit (k_then_exit ?_)
 obtain rfl := some_inj h
 have hy := some_inj hn2
 subst hy
 replace h := h2
 refine k_then_exit (k_block_in (k_then (c_nm [(0, Vs p0)] (fun J => ?_))))
 refine c_sp (x_u 1 [(28, Vs p0)] (x_len (vs := [Vs p0]) (Vi (p0.length : Int)) rfl rfl rfl (reads_slen tstr9 _) (x_u 2 [(30, .bool (decide ((p0.length : Int) > 0))), (31, .bool (decide ((p0.length : Int) > 0)))] (x_if 31 (decide ((p0.length : Int) > 0)) rfl h (fun h => ?_) (fun h => ?_)))))
 · refine x_u 1 [(32, Vs p0)] (x_len (vs := [Vs p0]) (Vi (p0.length : Int)) rfl rfl rfl (reads_slen tstr9 _) (x_u 3 [(34, .bool (decide ((p0.length : Int) ≤ 12))), (35, .bool (decide ((p0.length : Int) ≤ 12))), (2, .bool (decide ((p0.length : Int) ≤ 12)))] (x_ek (c_ret (r_ret (r_vals [.bool (decide ((p0.length : Int) ≤ 12))] ⟨rfl, trivial⟩ ?_))))))
   obtain rfl := some_inj h
   exact ⟨rfl, hev⟩
 refine x_u 5 [(32, undef), (33, undef), (34, undef), (35, .bool false), (2, .bool false)] (x_ek (c_ret (r_ret (r_vals [.bool false] ⟨rfl, trivial⟩ ?_))))
 obtain rfl := some_inj h
 exact ⟨rfl, hev⟩
def consist_Valid_J10 (p0_7 : List UInt8) (t43__s43_j10 : Bool) : Option Int :=
(if t43__s43_j10 = true then
some 2
else
((consist_name p0_7).bind fun x11 =>
(if (!x11) = true then
some 7
else
some 0)))
def consist_Valid_J9 (p0_3 : Int) (p0_4 : Int) (p0_5 : Int) (p0_7 : List UInt8) (t23__s23_j9 : Bool) : Option Int :=
(if t23__s23_j9 = true then
some 2
else
(if (decide (p0_4 < 0)) = true then
consist_Valid_J10 p0_7 true
else
(if (decide (p0_4 > p0_3)) = true then
consist_Valid_J10 p0_7 true
else
(if (decide (p0_5 < 0)) = true then
consist_Valid_J10 p0_7 true
else
consist_Valid_J10 p0_7 (decide (p0_5 > 9))))))
def consist_Valid_J6 (p0_1 : Int) (p0_2 : Int) (p0_3 : Int) (p0_4 : Int) (p0_5 : Int) (p0_7 : List UInt8) (x3 : Int × Int) (least_s5_j6 : Int) : Option Int :=
((consist_axles x3.1).bind fun x7 =>
(if (p0_2 != x7) = true then
some 1
else
(if (decide (p0_1 < least_s5_j6)) = true then
consist_Valid_J9 p0_3 p0_4 p0_5 p0_7 true
else
(if (decide (p0_1 > 400)) = true then
consist_Valid_J9 p0_3 p0_4 p0_5 p0_7 true
else
(if (decide (p0_3 < 50)) = true then
consist_Valid_J9 p0_3 p0_4 p0_5 p0_7 true
else
consist_Valid_J9 p0_3 p0_4 p0_5 p0_7 (decide (p0_3 > 2000)))))))
def consist_Valid (p0_0 : List UInt8) (p0_1 : Int) (p0_2 : Int) (p0_3 : Int) (p0_4 : Int) (p0_5 : Int) (p0_6 : Bool) (p0_7 : List UInt8) : Option Int :=
((wagonnumber_Kind p0_0).bind fun x3 =>
(if (x3.2 != 0) = true then
some x3.2
else
(if (x3.1 == 3) = true then
consist_Valid_J6 p0_1 p0_2 p0_3 p0_4 p0_5 p0_7 x3 120
else
consist_Valid_J6 p0_1 p0_2 p0_3 p0_4 p0_5 p0_7 x3 80)))
theorem consist_Valid_w (p0_0 : List UInt8) (p0_1 : Int) (p0_2 : Int) (p0_3 : Int) (p0_4 : Int) (p0_5 : Int) (p0_6 : Bool) (p0_7 : List UInt8) (r : Int) (w : World) (h : consist_Valid p0_0 p0_1 p0_2 p0_3 p0_4 p0_5 p0_6 p0_7 = some r) : CallVC Tryz.prog 43 [.agg #[Vs p0_0, Vi p0_1, Vi p0_2, Vi p0_3, Vi p0_4, Vi p0_5, .bool p0_6, Vs p0_7]] w fun v w' => v = Vi r ∧ Ev [] w w' := by
 refine calls_vc hmx Tryz.func43 (by kernel_rfl) rfl (rs := [.tmp 2]) rfl (by kernel_rfl) (args := [.agg #[Vs p0_0, Vi p0_1, Vi p0_2, Vi p0_3, Vi p0_4, Vi p0_5, .bool p0_6, Vs p0_7]]) rfl ?_
 have hev : Ev [] w w := Ev.refl _ _
 have hms : MS w [[]] := ⟨List.pairwise_singleton _ _, fun l hl b hb => by simp only [List.mem_singleton] at hl; subst hl; cases hb⟩
 have hfr : FR w.heap.size [] := FR.nil _
 refine c_sp (x_box (xv := .agg #[Vs p0_0, Vi p0_1, Vi p0_2, Vi p0_3, Vi p0_4, Vi p0_5, .bool p0_6, Vs p0_7]) rfl rfl rfl (fun b1 w1 hq1 hb1 he1 hz1 => ?_))
 replace hb1 : w1.heap[b1]? = some (.cells #[Vs p0_0, Vi p0_1, Vi p0_2, Vi p0_3, Vi p0_4, Vi p0_5, .bool p0_6, Vs p0_7] 34 (0, 0)) := hb1
 refine inl1 ?_
 replace hms := hms.box he1 hq1 hb1
 replace hfr := hfr.box hev.size hq1
 replace hev := hev.ext he1
 refine x_u 1 [(2, Vi 0)] (x_ek (c_sp (x_fieldAddr (xv := Vp b1 0) (Vp b1 0) rfl rfl rfl (reads_field tfld34_0 _ _) (x_load (xv := Vp b1 0) (Vs p0_0) rfl rfl rfl (reads_box tcell9 hb1 nn 0 _ rfl) ?_))))
 obtain ⟨x3, hx, h⟩ := bind_some h
 have hcall := wagonnumber_Kind_w p0_0 _ w1 hx
 refine x_call 72 #[] #[] [Vs p0_0] _ rfl rfl rfl rfl hcall ?_
 rintro v w4 ⟨rfl, he4⟩
 clear hcall hx
 refine inl1 ?_
 replace hb1 := he4.box hb1 nn
 replace hms := hms.ev he4
 replace hev := hev.ext he4
 refine x_u 5 [(6, .tuple #[Vi x3.1, Vi x3.2]), (10, Vi x3.1), (11, Vi x3.2), (3, Vi x3.1), (4, Vi x3.2)] (x_ek (c_seq (c_sp (x_u 2 [(12, Vi x3.2), (13, .bool (x3.2 != 0))] (x_ek ?_)))))
 refine c_if (x3.2 != 0) rfl h (fun h => ?_) (fun h => ?_)
 · refine c_sp (x_u 2 [(14, Vi x3.2), (2, Vi x3.2)] (x_ek (c_nm [(2, Vi x3.2)] (fun J => ?_))))
   refine c_ret (k_then_ret (r_ret (r_vals [Vi x3.2] ⟨rfl, trivial⟩ ?_)))
   obtain rfl := some_inj h
   exact ⟨rfl, hev⟩
 refine c_skip (k_then (c_sp (x_u 1 [(5, Vi 80)] (x_ek (c_nm [(1, Vp b1 0), (3, Vi x3.1), (5, Vi 80)] (fun J => ?_))))))
 refine c_join (σ := Int) (fun s => match s with | least_s5_j6 => [(1, Vp b1 0), (3, Vi x3.1), (5, Vi least_s5_j6)]) (fun s w' => match s with | least_s5_j6 => consist_Valid_J6 p0_1 p0_2 p0_3 p0_4 p0_5 p0_7 x3 least_s5_j6 = some r ∧ Ev [] w w' ∧ MS w' [[b1], []] ∧ FR w.heap.size [[b1]] ∧ w'.heap[b1]? = some (.cells #[Vs p0_0, Vi p0_1, Vi p0_2, Vi p0_3, Vi p0_4, Vi p0_5, .bool p0_6, Vs p0_7] 34 (0, 0))) ?_ ?_
 · refine c_sp (x_u 2 [(15, Vi x3.1), (16, .bool (x3.1 == 3))] (x_ek (c_if (x3.1 == 3) rfl h (fun h => ?_) (fun h => ?_))))
   · refine c_plain (x_u 1 [(5, Vi 120)] (x_end rfl ?_))
     exact k_then ⟨120, ⟨rfl, rfl, rfl, trivial⟩, h, hev, hms, hfr, hb1⟩
   refine c_skip ?_
   exact k_then ⟨80, ⟨rfl, rfl, rfl, trivial⟩, h, hev, hms, hfr, hb1⟩
 rintro least_s5_j6 J wj6 ⟨h, hev, hms, hfr, hb1⟩
 refine c_seq (c_block (c_seq (c_drawn [] [(0, false), (1, false), (2, false), (3, false), (4, false), (5, false)] _ (by kernel_rfl) rfl ?_)))
 replace hb1 := (Ev.drew wj6).box hb1 nn
 replace hms := hms.ev (Ev.drew wj6)
 replace hev := hev.ext (Ev.drew wj6)
 refine x_fieldAddr (xv := Vp b1 0) (Vp b1 2) rfl rfl rfl (reads_field tfld34_2 _ _) (x_load (xv := Vp b1 2) (Vi p0_2) rfl rfl rfl (reads_box tcell3 hb1 nn 2 _ rfl) (x_u 1 [(20, Vi x3.1)] ?_))
 obtain ⟨x7, hx, h⟩ := bind_some h
 have hcall := consist_axles_w x3.1 _ (wj6).drew hx
 refine x_call 73 #[] #[] [Vi x3.1] _ rfl rfl rfl rfl hcall ?_
 rintro v w8 ⟨rfl, he8⟩
 clear hcall hx
 refine ⟨.inr he8, ?_⟩
 replace hb1 := he8.box hb1 nn
 replace hms := hms.ev he8
 replace hev := hev.ext he8
 refine x_u 2 [(22, .bool (p0_2 != x7)), (17, .bool (p0_2 != x7))] (x_ek (c_nm [(1, Vp b1 0), (5, Vi least_s5_j6), (17, .bool (p0_2 != x7))] (fun J => ?_)))
 refine c_if (p0_2 != x7) rfl h (fun h => ?_) (fun h => ?_)
 · refine c_sp (x_u 1 [(2, Vi 1)] (x_ek (c_ret (k_block_ret (k_then_ret ?_)))))
   refine r_ret (r_vals [Vi 1] ⟨rfl, trivial⟩ ?_)
   obtain rfl := some_inj h
   exact ⟨rfl, hev⟩
 refine c_join (σ := Bool) (fun s => match s with | t23__s23_j9 => [(1, Vp b1 0), (23, .bool t23__s23_j9)]) (fun s w' => match s with | t23__s23_j9 => consist_Valid_J9 p0_3 p0_4 p0_5 p0_7 t23__s23_j9 = some r ∧ Ev [] w w' ∧ MS w' [[b1], []] ∧ FR w.heap.size [[b1]] ∧ w'.heap[b1]? = some (.cells #[Vs p0_0, Vi p0_1, Vi p0_2, Vi p0_3, Vi p0_4, Vi p0_5, .bool p0_6, Vs p0_7] 34 (0, 0))) ?_ ?_
 · refine c_plain (x_fieldAddr (xv := Vp b1 0) (Vp b1 1) rfl rfl rfl (reads_field tfld34_1 _ _) (x_load (xv := Vp b1 1) (Vi p0_1) rfl rfl rfl (reads_box tcell3 hb1 nn 1 _ rfl) (x_u 3 [(26, Vi least_s5_j6), (27, .bool (decide (p0_1 < least_s5_j6))), (28, .bool (decide (p0_1 < least_s5_j6)))] (x_if 28 (decide (p0_1 < least_s5_j6)) rfl h (fun h => ?_) (fun h => ?_)))))
   · refine x_u 15 [(29, undef), (30, undef), (31, undef), (32, .bool true), (33, .bool true), (34, undef), (35, undef), (36, undef), (37, .bool true), (38, .bool true), (39, undef), (40, undef), (41, undef), (42, .bool true), (23, .bool true)] (x_end rfl ?_)
     exact k_then ⟨true, ⟨rfl, rfl, trivial⟩, h, hev, hms, hfr, hb1⟩
   refine x_fieldAddr (xv := Vp b1 0) (Vp b1 1) rfl rfl rfl (reads_field tfld34_1 _ _) (x_load (xv := Vp b1 1) (Vi p0_1) rfl rfl rfl (reads_box tcell3 hb1 nn 1 _ rfl) (x_u 3 [(31, .bool (decide (p0_1 > 400))), (32, .bool (decide (p0_1 > 400))), (33, .bool (decide (p0_1 > 400)))] (x_if 33 (decide (p0_1 > 400)) rfl h (fun h => ?_) (fun h => ?_))))
   · refine x_u 10 [(34, undef), (35, undef), (36, undef), (37, .bool true), (38, .bool true), (39, undef), (40, undef), (41, undef), (42, .bool true), (23, .bool true)] (x_end rfl ?_)
     exact k_then ⟨true, ⟨rfl, rfl, trivial⟩, h, hev, hms, hfr, hb1⟩
   refine x_fieldAddr (xv := Vp b1 0) (Vp b1 3) rfl rfl rfl (reads_field tfld34_3 _ _) (x_load (xv := Vp b1 3) (Vi p0_3) rfl rfl rfl (reads_box tcell3 hb1 nn 3 _ rfl) (x_u 3 [(36, .bool (decide (p0_3 < 50))), (37, .bool (decide (p0_3 < 50))), (38, .bool (decide (p0_3 < 50)))] (x_if 38 (decide (p0_3 < 50)) rfl h (fun h => ?_) (fun h => ?_))))
   · refine x_u 5 [(39, undef), (40, undef), (41, undef), (42, .bool true), (23, .bool true)] (x_end rfl ?_)
     exact k_then ⟨true, ⟨rfl, rfl, trivial⟩, h, hev, hms, hfr, hb1⟩
   refine x_fieldAddr (xv := Vp b1 0) (Vp b1 3) rfl rfl rfl (reads_field tfld34_3 _ _) (x_load (xv := Vp b1 3) (Vi p0_3) rfl rfl rfl (reads_box tcell3 hb1 nn 3 _ rfl) (x_u 3 [(41, .bool (decide (p0_3 > 2000))), (42, .bool (decide (p0_3 > 2000))), (23, .bool (decide (p0_3 > 2000)))] (x_end rfl ?_)))
   exact k_then ⟨decide (p0_3 > 2000), ⟨rfl, rfl, trivial⟩, h, hev, hms, hfr, hb1⟩
 rintro t23__s23_j9 J wj9 ⟨h, hev, hms, hfr, hb1⟩
 refine c_if t23__s23_j9 rfl h (fun h => ?_) (fun h => ?_)
 · refine c_sp (x_u 1 [(2, Vi 2)] (x_ek (c_nm [(2, Vi 2)] (fun J => ?_))))
   refine c_ret (k_block_ret (k_then_ret (r_ret (r_vals [Vi 2] ⟨rfl, trivial⟩ ?_))))
   obtain rfl := some_inj h
   exact ⟨rfl, hev⟩
 refine c_join (σ := Bool) (fun s => match s with | t43__s43_j10 => [(1, Vp b1 0), (43, .bool t43__s43_j10)]) (fun s w' => match s with | t43__s43_j10 => consist_Valid_J10 p0_7 t43__s43_j10 = some r ∧ Ev [] w w' ∧ MS w' [[b1], []] ∧ FR w.heap.size [[b1]] ∧ w'.heap[b1]? = some (.cells #[Vs p0_0, Vi p0_1, Vi p0_2, Vi p0_3, Vi p0_4, Vi p0_5, .bool p0_6, Vs p0_7] 34 (0, 0))) ?_ ?_
 · refine c_plain (x_fieldAddr (xv := Vp b1 0) (Vp b1 4) rfl rfl rfl (reads_field tfld34_4 _ _) (x_load (xv := Vp b1 4) (Vi p0_4) rfl rfl rfl (reads_box tcell3 hb1 nn 4 _ rfl) (x_u 2 [(46, .bool (decide (p0_4 < 0))), (47, .bool (decide (p0_4 < 0)))] (x_if 47 (decide (p0_4 < 0)) rfl h (fun h => ?_) (fun h => ?_)))))
   · refine x_u 17 [(48, undef), (49, undef), (50, undef), (51, undef), (52, undef), (53, .bool true), (54, .bool true), (55, undef), (56, undef), (57, undef), (58, .bool true), (59, .bool true), (60, undef), (61, undef), (62, undef), (63, .bool true), (43, .bool true)] (x_end rfl ?_)
     exact k_then ⟨true, ⟨rfl, rfl, trivial⟩, h, hev, hms, hfr, hb1⟩
   refine x_fieldAddr (xv := Vp b1 0) (Vp b1 4) rfl rfl rfl (reads_field tfld34_4 _ _) (x_load (xv := Vp b1 4) (Vi p0_4) rfl rfl rfl (reads_box tcell3 hb1 nn 4 _ rfl) (x_fieldAddr (xv := Vp b1 0) (Vp b1 3) rfl rfl rfl (reads_field tfld34_3 _ _) (x_load (xv := Vp b1 3) (Vi p0_3) rfl rfl rfl (reads_box tcell3 hb1 nn 3 _ rfl) (x_u 3 [(52, .bool (decide (p0_4 > p0_3))), (53, .bool (decide (p0_4 > p0_3))), (54, .bool (decide (p0_4 > p0_3)))] (x_if 54 (decide (p0_4 > p0_3)) rfl h (fun h => ?_) (fun h => ?_))))))
   · refine x_u 10 [(55, undef), (56, undef), (57, undef), (58, .bool true), (59, .bool true), (60, undef), (61, undef), (62, undef), (63, .bool true), (43, .bool true)] (x_end rfl ?_)
     exact k_then ⟨true, ⟨rfl, rfl, trivial⟩, h, hev, hms, hfr, hb1⟩
   refine x_fieldAddr (xv := Vp b1 0) (Vp b1 5) rfl rfl rfl (reads_field tfld34_5 _ _) (x_load (xv := Vp b1 5) (Vi p0_5) rfl rfl rfl (reads_box tcell3 hb1 nn 5 _ rfl) (x_u 3 [(57, .bool (decide (p0_5 < 0))), (58, .bool (decide (p0_5 < 0))), (59, .bool (decide (p0_5 < 0)))] (x_if 59 (decide (p0_5 < 0)) rfl h (fun h => ?_) (fun h => ?_))))
   · refine x_u 5 [(60, undef), (61, undef), (62, undef), (63, .bool true), (43, .bool true)] (x_end rfl ?_)
     exact k_then ⟨true, ⟨rfl, rfl, trivial⟩, h, hev, hms, hfr, hb1⟩
   refine x_fieldAddr (xv := Vp b1 0) (Vp b1 5) rfl rfl rfl (reads_field tfld34_5 _ _) (x_load (xv := Vp b1 5) (Vi p0_5) rfl rfl rfl (reads_box tcell3 hb1 nn 5 _ rfl) (x_u 3 [(62, .bool (decide (p0_5 > 9))), (63, .bool (decide (p0_5 > 9))), (43, .bool (decide (p0_5 > 9)))] (x_end rfl ?_)))
   exact k_then ⟨decide (p0_5 > 9), ⟨rfl, rfl, trivial⟩, h, hev, hms, hfr, hb1⟩
 rintro t43__s43_j10 J wj10 ⟨h, hev, hms, hfr, hb1⟩
 refine c_if t43__s43_j10 rfl h (fun h => ?_) (fun h => ?_)
 · refine c_sp (x_u 1 [(2, Vi 2)] (x_ek (c_nm [(2, Vi 2)] (fun J => ?_))))
   refine c_ret (k_block_ret (k_then_ret (r_ret (r_vals [Vi 2] ⟨rfl, trivial⟩ ?_))))
   obtain rfl := some_inj h
   exact ⟨rfl, hev⟩
 refine c_sp (x_fieldAddr (xv := Vp b1 0) (Vp b1 7) rfl rfl rfl (reads_field tfld34_7 _ _) (x_load (xv := Vp b1 7) (Vs p0_7) rfl rfl rfl (reads_box tcell9 hb1 nn 7 _ rfl) ?_))
 obtain ⟨x11, hx, h⟩ := bind_some h
 have hcall := consist_name_w p0_7 _ wj10 hx
 refine x_call 74 #[] #[] [Vs p0_7] _ rfl rfl rfl rfl hcall ?_
 rintro v w12 ⟨rfl, he12⟩
 clear hcall hx
 refine inl1 ?_
 replace hev := hev.ext he12
 refine x_u 2 [(68, .bool (!x11)), (64, .bool (!x11))] (x_ek (c_nm [(64, .bool (!x11))] (fun J => ?_)))
 refine c_if (!x11) rfl h (fun h => ?_) (fun h => ?_)
 · refine c_sp (x_u 1 [(2, Vi 7)] (x_ek (c_ret (k_block_ret (k_then_ret ?_)))))
   refine r_ret (r_vals [Vi 7] ⟨rfl, trivial⟩ ?_)
   obtain rfl := some_inj h
   exact ⟨rfl, hev⟩
 refine c_skip (k_block (k_then (c_sp (x_u 1 [(2, Vi 0)] (x_ek ?_)))))
 refine c_ret (r_ret (r_vals [Vi 0] ⟨rfl, trivial⟩ ?_))
 obtain rfl := some_inj h
 exact ⟨rfl, hev⟩
end Go.Proofs.YtlejnkhaphlooaaGreat
