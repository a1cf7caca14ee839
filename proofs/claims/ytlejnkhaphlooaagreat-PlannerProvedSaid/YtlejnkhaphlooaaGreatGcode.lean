
/- Walks, printed by program: each function returns what the partial function of the same name returns. Conditions: those of each theorem. -/
import Derived.Test.YtlejnkhaphlooaaGreatGT
set_option linter.unusedVariables false
set_option linter.unusedSimpArgs false
set_option maxRecDepth 4000
namespace Go.Proofs.YtlejnkhaphlooaaGreat
open Go Go.V Go.Proofs
def code_in (p0 : Int) (p1 : Int) (p2 : Int) : Option Bool :=
(if (decide (p0 ≥ p1)) = true then
some (decide (p0 ≤ p2))
else
some false)
theorem code_in_w (p0 : Int) (p1 : Int) (p2 : Int) (r : Bool) (w : World) (h : code_in p0 p1 p2 = some r) : CallVC Tryz.prog 112 [Vi p0, Vi p1, Vi p2] w fun v w' => v = .bool r ∧ Ev [] w w' := by
 refine calls_vc hmx Tryz.func112 (by kernel_rfl) rfl (rs := [.tmp 6]) rfl (by kernel_rfl) (args := [Vi p0, Vi p1, Vi p2]) rfl ?_
 have hev : Ev [] w w := Ev.refl _ _
 have hms : MS w [[]] := ⟨List.pairwise_singleton _ _, fun l hl b hb => by simp only [List.mem_singleton] at hl; subst hl; cases hb⟩
 refine c_sp (x_u 1 [(6, .bool false)] (x_ek (c_sp (x_u 4 [(7, Vi p0), (8, Vi p1), (9, .bool (decide (p0 ≥ p1))), (10, .bool (decide (p0 ≥ p1)))] (x_if 10 (decide (p0 ≥ p1)) rfl h (fun h => ?_) (fun h => ?_))))))
 · refine x_u 5 [(11, Vi p0), (12, Vi p2), (13, .bool (decide (p0 ≤ p2))), (14, .bool (decide (p0 ≤ p2))), (6, .bool (decide (p0 ≤ p2)))] (x_ek (c_ret (r_ret (r_vals [.bool (decide (p0 ≤ p2))] ⟨rfl, trivial⟩ ?_))))
   obtain rfl := some_inj h
   exact ⟨rfl, hev⟩
 refine x_u 5 [(11, undef), (12, undef), (13, undef), (14, .bool false), (6, .bool false)] (x_ek (c_ret (r_ret (r_vals [.bool false] ⟨rfl, trivial⟩ ?_))))
 obtain rfl := some_inj h
 exact ⟨rfl, hev⟩
def code_form (p0 : Int) (p1 : Int) : Option Bool :=
((code_in p0 0 12).bind fun x1 =>
(if x1 = true then
((code_in p1 0 12).bind fun x3 =>
some x3)
else
some false))
theorem code_form_w (p0 : Int) (p1 : Int) (r : Bool) (w : World) (h : code_form p0 p1 = some r) : CallVC Tryz.prog 113 [Vi p0, Vi p1] w fun v w' => v = .bool r ∧ Ev [] w w' := by
 refine calls_vc hmx Tryz.func113 (by kernel_rfl) rfl (rs := [.tmp 4]) rfl (by kernel_rfl) (args := [Vi p0, Vi p1]) rfl ?_
 have hev : Ev [] w w := Ev.refl _ _
 have hms : MS w [[]] := ⟨List.pairwise_singleton _ _, fun l hl b hb => by simp only [List.mem_singleton] at hl; subst hl; cases hb⟩
 refine c_sp (x_u 1 [(4, .bool false)] (x_ek (c_sp (x_u 1 [(5, Vi p0)] ?_))))
 obtain ⟨x1, hx, h⟩ := bind_some h
 have hcall := code_in_w p0 0 12 _ w hx
 refine x_call 112 #[] #[] [Vi p0, Vi 0, Vi 12] _ rfl rfl rfl rfl hcall ?_
 rintro v w2 ⟨rfl, he2⟩
 clear hcall hx
 refine inl1 ?_
 replace hev := hev.ext he2
 refine x_u 1 [(7, .bool x1)] (x_if 7 x1 rfl h (fun h => ?_) (fun h => ?_))
 · refine x_u 1 [(8, Vi p1)] ?_
   obtain ⟨x3, hx, h⟩ := bind_some h
   have hcall := code_in_w p1 0 12 _ w2 hx
   refine x_call 112 #[] #[] [Vi p1, Vi 0, Vi 12] _ rfl rfl rfl rfl hcall ?_
   rintro v w4 ⟨rfl, he4⟩
   clear hcall hx
   refine inl1 ?_
   replace hev := hev.ext he4
   refine x_u 2 [(10, .bool x3), (4, .bool x3)] (x_ek (c_ret (r_ret (r_vals [.bool x3] ⟨rfl, trivial⟩ ?_))))
   obtain rfl := some_inj h
   exact ⟨rfl, hev⟩
 refine x_u 4 [(8, undef), (9, undef), (10, .bool false), (4, .bool false)] (x_ek (c_ret (r_ret (r_vals [.bool false] ⟨rfl, trivial⟩ ?_))))
 obtain rfl := some_inj h
 exact ⟨rfl, hev⟩
def code_missed (p0 : Int) : Option Int :=
(if 0 ≤ p0 then
some (IntKind.i64.wrap ((IntKind.i64.wrap (1 * 2 ^ (min (Int.toNat (p0)) IntKind.i64.bits))) - 1))
else none)
theorem code_missed_w (p0 : Int) (r : Int) (w : World) (h : code_missed p0 = some r) : CallVC Tryz.prog 114 [Vi p0] w fun v w' => v = Vi r ∧ Ev [] w w' := by
 refine calls_vc hmx Tryz.func114 (by kernel_rfl) rfl (rs := [.tmp 2]) rfl (by kernel_rfl) (args := [Vi p0]) rfl ?_
 have hev : Ev [] w w := Ev.refl _ _
 have hms : MS w [[]] := ⟨List.pairwise_singleton _ _, fun l hl b hb => by simp only [List.mem_singleton] at hl; subst hl; cases hb⟩
 refine c_sp (x_u 1 [(2, Vi 0)] (x_ek (c_sp (x_u 1 [(3, Vi p0)] (x_binop (Vi (IntKind.i64.wrap (1 * 2 ^ (min (Int.toNat (p0)) IntKind.i64.bits)))) (Vi 1) (Vi p0) rfl rfl rfl rfl (vb_shl (guard_l h)) ?_)))))
 replace h := guard_r h
 refine x_u 2 [(5, Vi (IntKind.i64.wrap ((IntKind.i64.wrap (1 * 2 ^ (min (Int.toNat (p0)) IntKind.i64.bits))) - 1))), (2, Vi (IntKind.i64.wrap ((IntKind.i64.wrap (1 * 2 ^ (min (Int.toNat (p0)) IntKind.i64.bits))) - 1)))] (x_ek (c_ret (r_ret (r_vals [Vi (IntKind.i64.wrap ((IntKind.i64.wrap (1 * 2 ^ (min (Int.toNat (p0)) IntKind.i64.bits))) - 1))] ⟨rfl, trivial⟩ ?_))))
 obtain rfl := some_inj h
 exact ⟨rfl, hev⟩
def code_ones_L1 (s : Int × Int) : Option (Step (Int × Int) Int) :=
match s with
| (k_s0_l1, n_s3_l1) =>
(if (k_s0_l1 != 0) = true then
some (.next (IntKind.i64.wrap ↑(BitVec.ofInt IntKind.i64.bits k_s0_l1 &&& BitVec.ofInt IntKind.i64.bits (IntKind.i64.wrap (k_s0_l1 - 1))).toNat, IntKind.i64.wrap (n_s3_l1 + 1)))
else
some (.done n_s3_l1))
def code_ones (p0 : Int) : Option Int :=
((loop code_ones_L1 (p0, 0)).bind fun d => match d with
| n_s3_x1 => some n_s3_x1)
theorem code_ones_w (p0 : Int) (r : Int) (w : World) (h : code_ones p0 = some r) : CallVC Tryz.prog 115 [Vi p0] w fun v w' => v = Vi r ∧ Ev [] w w' := by
 refine calls_vc hmx Tryz.func115 (by kernel_rfl) rfl (rs := [.tmp 2]) rfl (by kernel_rfl) (args := [Vi p0]) rfl ?_
 have hev : Ev [] w w := Ev.refl _ _
 have hms : MS w [[]] := ⟨List.pairwise_singleton _ _, fun l hl b hb => by simp only [List.mem_singleton] at hl; subst hl; cases hb⟩
 have hfr : FR w.heap.size [] := FR.nil _
 refine c_sp (x_u 1 [(2, Vi 0)] (x_ek (c_sp (x_u 1 [(3, Vi 0)] (x_ek ?_)))))
 refine c_seq (c_block ?_)
 obtain ⟨d1, hd1, h1⟩ := bind_some h
 obtain ⟨m1, hd1⟩ := loop_some hd1
 refine c_loop (loop_rule hmx (σ := Nat × Int × Int) (fun s => match s with | (_, k_s0_l1, n_s3_l1) => [(0, Vi k_s0_l1), (3, Vi n_s3_l1)]) (fun s w' => match s with | (m, k_s0_l1, n_s3_l1) => loopN code_ones_L1 m (k_s0_l1, n_s3_l1) = some d1 ∧ Ev [] w w' ∧ MS w' [[]] ∧ FR w.heap.size []) (fun s => s.1) (m1, p0, 0) ⟨rfl, rfl, trivial⟩ ⟨hd1, hev, hms, hfr⟩ ?_)
 rintro ⟨m1, k_s0_l1, n_s3_l1⟩ J wl1 ⟨hn1, hev, hms, hfr⟩
 rcases m1 with _ | m1
 · exact (loopN_zero hn1).elim
 obtain ⟨t1, h, hn1⟩ := bind_some hn1
 refine c_seq (c_sp (x_u 2 [(4, Vi k_s0_l1), (5, .bool (k_s0_l1 != 0))] (x_ek (c_nm [(0, Vi k_s0_l1), (3, Vi n_s3_l1), (5, .bool (k_s0_l1 != 0))] (fun J => ?_)))))
 refine c_if (k_s0_l1 != 0) rfl h (fun h => ?_) (fun h => ?_)
 · refine c_skip (k_then (c_seq (c_block (c_plain (x_u 3 [(10, Vi n_s3_l1), (11, Vi (IntKind.i64.wrap (n_s3_l1 + 1))), (3, Vi (IntKind.i64.wrap (n_s3_l1 + 1)))] ?_)))))
   refine x_end rfl (k_block (k_then (c_plain (x_u 5 [(6, Vi k_s0_l1), (7, Vi k_s0_l1), (8, Vi (IntKind.i64.wrap (k_s0_l1 - 1))), (9, Vi (IntKind.i64.wrap ↑(BitVec.ofInt IntKind.i64.bits k_s0_l1 &&& BitVec.ofInt IntKind.i64.bits (IntKind.i64.wrap (k_s0_l1 - 1))).toNat)), (0, Vi (IntKind.i64.wrap ↑(BitVec.ofInt IntKind.i64.bits k_s0_l1 &&& BitVec.ofInt IntKind.i64.bits (IntKind.i64.wrap (k_s0_l1 - 1))).toNat))] (x_end rfl ?_)))))
   obtain rfl := some_inj h
   exact k_then ⟨(m1, IntKind.i64.wrap ↑(BitVec.ofInt IntKind.i64.bits k_s0_l1 &&& BitVec.ofInt IntKind.i64.bits (IntKind.i64.wrap (k_s0_l1 - 1))).toNat, IntKind.i64.wrap (n_s3_l1 + 1)), ⟨rfl, rfl, trivial⟩, ⟨hn1, hev, hms, hfr⟩, Nat.lt_succ_self _⟩
 refine c_exit (k_then_exit ?_)
 obtain rfl := some_inj h
 have hy := some_inj hn1
 subst hy
 replace h := h1
 refine k_then_exit (k_block_in (k_then (c_nm [(3, Vi n_s3_l1)] (fun J => ?_))))
 refine c_sp (x_u 2 [(12, Vi n_s3_l1), (2, Vi n_s3_l1)] (x_ek (c_ret (r_ret (r_vals [Vi n_s3_l1] ⟨rfl, trivial⟩ ?_)))))
 obtain rfl := some_inj h
 exact ⟨rfl, hev⟩
def code_Next_L9 (p2 : Int) (s : Int) : Option (Step Int (Unit ⊕ Int)) :=
match s with
| real_s8_l9 =>
((code_ones real_s8_l9).bind fun x11 =>
(if (decide (x11 > p2)) = true then
(if (decide ((IntKind.i64.wrap (real_s8_l9 + (IntKind.i64.wrap ↑(BitVec.ofInt IntKind.i64.bits real_s8_l9 &&& BitVec.ofInt IntKind.i64.bits (IntKind.i64.wrap (0 - real_s8_l9))).toNat))) ≥ 4096)) = true then
some (.done (.inl ()))
else
some (.next (IntKind.i64.wrap (real_s8_l9 + (IntKind.i64.wrap ↑(BitVec.ofInt IntKind.i64.bits real_s8_l9 &&& BitVec.ofInt IntKind.i64.bits (IntKind.i64.wrap (0 - real_s8_l9))).toNat)))))
else
some (.done (.inr real_s8_l9))))
def code_Next_J5 (p1 : Int) (p2 : Int) (real_s8_j5 : Int) : Option (Int × Int) :=
((loop (code_Next_L9 p2) real_s8_j5).bind fun d => match d with
| (.inl _) => some (0, 15)
| (.inr real_s8_x901) => (if 0 ≤ p1 then
((code_missed p1).bind fun x13 =>
(if (decide ((IntKind.i64.wrap ↑(BitVec.ofInt IntKind.i64.bits (IntKind.i64.wrap (real_s8_x901 * 2 ^ (min (Int.toNat (p1)) IntKind.i64.bits))) ||| BitVec.ofInt IntKind.i64.bits x13).toNat) < 4096)) = true then
some (IntKind.i64.wrap ↑(BitVec.ofInt IntKind.i64.bits (IntKind.i64.wrap (real_s8_x901 * 2 ^ (min (Int.toNat (p1)) IntKind.i64.bits))) ||| BitVec.ofInt IntKind.i64.bits x13).toNat, 0)
else
some (0, 15)))
else none))
def code_Next (p0 : Int) (p1 : Int) (p2 : Int) : Option (Int × Int) :=
((code_form p1 p2).bind fun x2 =>
(if (!x2) = true then
some (0, 2)
else
(if (decide (p0 < 0)) = true then
some (0, 2)
else
(if (decide (p0 ≥ 4096)) = true then
some (0, 15)
else
((code_missed p1).bind fun x6 =>
(if (decide (p0 > x6)) = true then
(if 0 ≤ p1 then
(if 0 ≤ p1 then
code_Next_J5 p1 p2 (Int.fdiv (IntKind.i64.wrap ((IntKind.i64.wrap ((IntKind.i64.wrap (p0 - x6)) + (IntKind.i64.wrap (1 * 2 ^ (min (Int.toNat (p1)) IntKind.i64.bits))))) - 1)) (2 ^ (min (Int.toNat (p1)) IntKind.i64.bits)))
else none)
else none)
else
code_Next_J5 p1 p2 0))))))
theorem code_Next_w (p0 : Int) (p1 : Int) (p2 : Int) (r : Int × Int) (w : World) (h : code_Next p0 p1 p2 = some r) : CallVC Tryz.prog 111 [Vi p0, Vi p1, Vi p2] w fun v w' => v = .tuple #[Vi r.1, Vi r.2] ∧ Ev [] w w' := by
 refine calls_vc hmx Tryz.func111 (by kernel_rfl) rfl (rs := [.tmp 6, .tmp 7]) rfl (by kernel_rfl) (args := [Vi p0, Vi p1, Vi p2]) rfl ?_
 have hev : Ev [] w w := Ev.refl _ _
 have hms : MS w [[]] := ⟨List.pairwise_singleton _ _, fun l hl b hb => by simp only [List.mem_singleton] at hl; subst hl; cases hb⟩
 have hfr : FR w.heap.size [] := FR.nil _
 refine c_sp (x_u 2 [(6, Vi 0), (7, Vi 0)] (x_ek (c_seq (c_sp (x_u 2 [(11, Vi p1), (12, Vi p2)] ?_)))))
 obtain ⟨x2, hx, h⟩ := bind_some h
 have hcall := code_form_w p1 p2 _ w hx
 refine x_call 113 #[] #[] [Vi p1, Vi p2] _ rfl rfl rfl rfl hcall ?_
 rintro v w3 ⟨rfl, he3⟩
 clear hcall hx
 refine inl1 ?_
 replace hms := hms.ev he3
 replace hev := hev.ext he3
 refine x_u 2 [(14, .bool (!x2)), (15, .bool (!x2))] (x_if 15 (!x2) rfl h (fun h => ?_) (fun h => ?_))
 · refine x_u 3 [(16, undef), (17, undef), (18, .bool true)] (x_ek (c_true rfl (c_sp (x_u 2 [(6, Vi 0), (7, Vi 2)] (x_ek ?_)))))
   refine c_ret (k_then_ret (r_ret (r_vals [Vi 0, Vi 2] ⟨rfl, rfl, trivial⟩ ?_)))
   obtain rfl := some_inj h
   exact ⟨rfl, hev⟩
 refine x_u 3 [(16, Vi p0), (17, .bool (decide (p0 < 0))), (18, .bool (decide (p0 < 0)))] (x_ek (c_if (decide (p0 < 0)) rfl h (fun h => ?_) (fun h => ?_)))
 · refine c_sp (x_u 2 [(6, Vi 0), (7, Vi 2)] (x_ek (c_nm [(6, Vi 0), (7, Vi 2)] (fun J => ?_))))
   refine c_ret (k_then_ret (r_ret (r_vals [Vi 0, Vi 2] ⟨rfl, rfl, trivial⟩ ?_)))
   obtain rfl := some_inj h
   exact ⟨rfl, hev⟩
 refine c_skip (k_then (c_seq (c_sp (x_u 2 [(19, Vi p0), (20, .bool (decide (p0 ≥ 4096)))] (x_ek ?_)))))
 refine c_nm [(0, Vi p0), (1, Vi p1), (2, Vi p2), (20, .bool (decide (p0 ≥ 4096)))] (fun J => ?_)
 refine c_if (decide (p0 ≥ 4096)) rfl h (fun h => ?_) (fun h => ?_)
 · refine c_sp (x_u 2 [(6, Vi 0), (7, Vi 15)] (x_ek (c_ret (k_then_ret (r_ret (r_vals [Vi 0, Vi 15] ⟨rfl, rfl, trivial⟩ ?_))))))
   obtain rfl := some_inj h
   exact ⟨rfl, hev⟩
 refine c_skip (k_then (c_sp (x_u 1 [(8, Vi 0)] (x_ek (c_join (σ := Int) (fun s => match s with | real_s8_j5 => [(1, Vi p1), (2, Vi p2), (8, Vi real_s8_j5)]) (fun s w' => match s with | real_s8_j5 => code_Next_J5 p1 p2 real_s8_j5 = some r ∧ Ev [] w w' ∧ MS w' [[]] ∧ FR w.heap.size []) ?_ ?_)))))
 · refine c_sp (x_u 1 [(21, Vi p1)] ?_)
   obtain ⟨x6, hx, h⟩ := bind_some h
   have hcall := code_missed_w p1 _ w3 hx
   refine x_call 114 #[] #[] [Vi p1] _ rfl rfl rfl rfl hcall ?_
   rintro v w7 ⟨rfl, he7⟩
   clear hcall hx
   refine inl1 ?_
   replace hms := hms.ev he7
   replace hev := hev.ext he7
   refine x_u 1 [(9, Vi x6)] (x_ek (c_sp (x_u 3 [(23, Vi p0), (24, Vi x6), (25, .bool (decide (p0 > x6)))] (x_ek (c_if (decide (p0 > x6)) rfl h (fun h => ?_) (fun h => ?_))))))
   · refine c_plain (x_u 4 [(26, Vi p0), (27, Vi x6), (28, Vi (IntKind.i64.wrap (p0 - x6))), (29, Vi p1)] (x_binop (Vi (IntKind.i64.wrap (1 * 2 ^ (min (Int.toNat (p1)) IntKind.i64.bits)))) (Vi 1) (Vi p1) rfl rfl rfl rfl (vb_shl (guard_l h)) ?_))
     replace h := guard_r h
     refine x_u 3 [(31, Vi (IntKind.i64.wrap ((IntKind.i64.wrap (p0 - x6)) + (IntKind.i64.wrap (1 * 2 ^ (min (Int.toNat (p1)) IntKind.i64.bits)))))), (32, Vi (IntKind.i64.wrap ((IntKind.i64.wrap ((IntKind.i64.wrap (p0 - x6)) + (IntKind.i64.wrap (1 * 2 ^ (min (Int.toNat (p1)) IntKind.i64.bits))))) - 1))), (33, Vi p1)] (x_binop (Vi (Int.fdiv (IntKind.i64.wrap ((IntKind.i64.wrap ((IntKind.i64.wrap (p0 - x6)) + (IntKind.i64.wrap (1 * 2 ^ (min (Int.toNat (p1)) IntKind.i64.bits))))) - 1)) (2 ^ (min (Int.toNat (p1)) IntKind.i64.bits)))) (Vi (IntKind.i64.wrap ((IntKind.i64.wrap ((IntKind.i64.wrap (p0 - x6)) + (IntKind.i64.wrap (1 * 2 ^ (min (Int.toNat (p1)) IntKind.i64.bits))))) - 1))) (Vi p1) rfl rfl rfl rfl (vb_shr (guard_l h)) ?_)
     replace h := guard_r h
     refine x_u 1 [(8, Vi (Int.fdiv (IntKind.i64.wrap ((IntKind.i64.wrap ((IntKind.i64.wrap (p0 - x6)) + (IntKind.i64.wrap (1 * 2 ^ (min (Int.toNat (p1)) IntKind.i64.bits))))) - 1)) (2 ^ (min (Int.toNat (p1)) IntKind.i64.bits))))] (x_end rfl ?_)
     exact k_then ⟨Int.fdiv (IntKind.i64.wrap ((IntKind.i64.wrap ((IntKind.i64.wrap (p0 - x6)) + (IntKind.i64.wrap (1 * 2 ^ (min (Int.toNat (p1)) IntKind.i64.bits))))) - 1)) (2 ^ (min (Int.toNat (p1)) IntKind.i64.bits)), ⟨rfl, rfl, rfl, trivial⟩, h, hev, hms, hfr⟩
   refine c_skip ?_
   exact k_then ⟨0, ⟨rfl, rfl, rfl, trivial⟩, h, hev, hms, hfr⟩
 rintro real_s8_j5 J wj5 ⟨h, hev, hms, hfr⟩
 refine c_seq (c_block ?_)
 obtain ⟨d9, hd9, h9⟩ := bind_some h
 obtain ⟨m9, hd9⟩ := loop_some hd9
 refine c_loop (loop_rule hmx (σ := Nat × Int) (fun s => match s with | (_, real_s8_l9) => [(1, Vi p1), (2, Vi p2), (8, Vi real_s8_l9)]) (fun s w' => match s with | (m, real_s8_l9) => loopN (code_Next_L9 p2) m real_s8_l9 = some d9 ∧ Ev [] w w' ∧ MS w' [[]] ∧ FR w.heap.size []) (fun s => s.1) (m9, real_s8_j5) ⟨rfl, rfl, rfl, trivial⟩ ⟨hd9, hev, hms, hfr⟩ ?_)
 rintro ⟨m9, real_s8_l9⟩ J wl9 ⟨hn9, hev, hms, hfr⟩
 rcases m9 with _ | m9
 · exact (loopN_zero hn9).elim
 obtain ⟨t9, h, hn9⟩ := bind_some hn9
 refine c_seq (c_sp (x_u 1 [(35, Vi real_s8_l9)] ?_))
 obtain ⟨x11, hx, h⟩ := bind_some h
 have hcall := code_ones_w real_s8_l9 _ wl9 hx
 refine x_call 115 #[] #[] [Vi real_s8_l9] _ rfl rfl rfl rfl hcall ?_
 rintro v w12 ⟨rfl, he12⟩
 clear hcall hx
 refine inl1 ?_
 replace hms := hms.ev he12
 replace hev := hev.ext he12
 refine x_u 2 [(37, Vi p2), (38, .bool (decide (x11 > p2)))] (x_ek (c_nm [(1, Vi p1), (2, Vi p2), (8, Vi real_s8_l9), (38, .bool (decide (x11 > p2)))] (fun J => ?_)))
 refine c_if (decide (x11 > p2)) rfl h (fun h => ?_) (fun h => ?_)
 · refine c_skip (k_then (c_block (c_sp (x_u 7 [(39, Vi real_s8_l9), (40, Vi real_s8_l9), (41, Vi real_s8_l9), (42, Vi (IntKind.i64.wrap (0 - real_s8_l9))), (43, Vi (IntKind.i64.wrap ↑(BitVec.ofInt IntKind.i64.bits real_s8_l9 &&& BitVec.ofInt IntKind.i64.bits (IntKind.i64.wrap (0 - real_s8_l9))).toNat)), (44, Vi (IntKind.i64.wrap (real_s8_l9 + (IntKind.i64.wrap ↑(BitVec.ofInt IntKind.i64.bits real_s8_l9 &&& BitVec.ofInt IntKind.i64.bits (IntKind.i64.wrap (0 - real_s8_l9))).toNat)))), (8, Vi (IntKind.i64.wrap (real_s8_l9 + (IntKind.i64.wrap ↑(BitVec.ofInt IntKind.i64.bits real_s8_l9 &&& BitVec.ofInt IntKind.i64.bits (IntKind.i64.wrap (0 - real_s8_l9))).toNat))))] (x_ek ?_)))))
   refine c_sp (x_u 2 [(45, Vi (IntKind.i64.wrap (real_s8_l9 + (IntKind.i64.wrap ↑(BitVec.ofInt IntKind.i64.bits real_s8_l9 &&& BitVec.ofInt IntKind.i64.bits (IntKind.i64.wrap (0 - real_s8_l9))).toNat)))), (46, .bool (decide ((IntKind.i64.wrap (real_s8_l9 + (IntKind.i64.wrap ↑(BitVec.ofInt IntKind.i64.bits real_s8_l9 &&& BitVec.ofInt IntKind.i64.bits (IntKind.i64.wrap (0 - real_s8_l9))).toNat))) ≥ 4096)))] (x_ek (c_if (decide ((IntKind.i64.wrap (real_s8_l9 + (IntKind.i64.wrap ↑(BitVec.ofInt IntKind.i64.bits real_s8_l9 &&& BitVec.ofInt IntKind.i64.bits (IntKind.i64.wrap (0 - real_s8_l9))).toNat))) ≥ 4096)) rfl h (fun h => ?_) (fun h => ?_))))
   · refine c_sp (x_u 2 [(6, Vi 0), (7, Vi 15)] (x_ek (c_ret (k_block_ret ?_))))
     obtain rfl := some_inj h
     have hy := some_inj hn9
     subst hy
     replace h := h9
     refine k_then_ret (k_block_ret (k_then_ret (r_ret (r_vals [Vi 0, Vi 15] ⟨rfl, rfl, trivial⟩ ?_))))
     obtain rfl := some_inj h
     exact ⟨rfl, hev⟩
   refine c_skip (k_block ?_)
   obtain rfl := some_inj h
   exact k_then ⟨(m9, IntKind.i64.wrap (real_s8_l9 + (IntKind.i64.wrap ↑(BitVec.ofInt IntKind.i64.bits real_s8_l9 &&& BitVec.ofInt IntKind.i64.bits (IntKind.i64.wrap (0 - real_s8_l9))).toNat))), ⟨rfl, rfl, rfl, trivial⟩, ⟨hn9, hev, hms, hfr⟩, Nat.lt_succ_self _⟩
 refine c_exit (k_then_exit ?_)
 obtain rfl := some_inj h
 have hy := some_inj hn9
 subst hy
 replace h := h9
 refine k_then_exit (k_block_in (k_then (c_nm [(1, Vi p1), (8, Vi real_s8_l9)] (fun J => ?_))))
 refine c_seq (c_seq (c_drawn [] [(0, false), (1, false), (2, false), (3, false), (4, false), (5, false), (6, false)] _ (by kernel_rfl) rfl ?_))
 replace hev := hev.ext (Ev.drew w12)
 refine x_u 2 [(47, Vi real_s8_l9), (48, Vi p1)] (x_binop (Vi (IntKind.i64.wrap (real_s8_l9 * 2 ^ (min (Int.toNat (p1)) IntKind.i64.bits)))) (Vi real_s8_l9) (Vi p1) rfl rfl rfl rfl (vb_shl (guard_l h)) ?_)
 replace h := guard_r h
 refine x_u 1 [(50, Vi p1)] ?_
 obtain ⟨x13, hx, h⟩ := bind_some h
 have hcall := code_missed_w p1 _ (w12).drew hx
 refine x_call 114 #[] #[] [Vi p1] _ rfl rfl rfl rfl hcall ?_
 rintro v w14 ⟨rfl, he14⟩
 clear hcall hx
 refine ⟨.inr he14, ?_⟩
 replace hev := hev.ext he14
 refine x_u 2 [(52, Vi (IntKind.i64.wrap ↑(BitVec.ofInt IntKind.i64.bits (IntKind.i64.wrap (real_s8_l9 * 2 ^ (min (Int.toNat (p1)) IntKind.i64.bits))) ||| BitVec.ofInt IntKind.i64.bits x13).toNat)), (10, Vi (IntKind.i64.wrap ↑(BitVec.ofInt IntKind.i64.bits (IntKind.i64.wrap (real_s8_l9 * 2 ^ (min (Int.toNat (p1)) IntKind.i64.bits))) ||| BitVec.ofInt IntKind.i64.bits x13).toNat))] (x_ek (c_sp (x_u 2 [(53, Vi (IntKind.i64.wrap ↑(BitVec.ofInt IntKind.i64.bits (IntKind.i64.wrap (real_s8_l9 * 2 ^ (min (Int.toNat (p1)) IntKind.i64.bits))) ||| BitVec.ofInt IntKind.i64.bits x13).toNat)), (54, .bool (decide ((IntKind.i64.wrap ↑(BitVec.ofInt IntKind.i64.bits (IntKind.i64.wrap (real_s8_l9 * 2 ^ (min (Int.toNat (p1)) IntKind.i64.bits))) ||| BitVec.ofInt IntKind.i64.bits x13).toNat) < 4096)))] (x_ek (c_if (decide ((IntKind.i64.wrap ↑(BitVec.ofInt IntKind.i64.bits (IntKind.i64.wrap (real_s8_l9 * 2 ^ (min (Int.toNat (p1)) IntKind.i64.bits))) ||| BitVec.ofInt IntKind.i64.bits x13).toNat) < 4096)) rfl h (fun h => ?_) (fun h => ?_))))))
 · refine c_sp (x_u 3 [(55, Vi (IntKind.i64.wrap ↑(BitVec.ofInt IntKind.i64.bits (IntKind.i64.wrap (real_s8_l9 * 2 ^ (min (Int.toNat (p1)) IntKind.i64.bits))) ||| BitVec.ofInt IntKind.i64.bits x13).toNat)), (6, Vi (IntKind.i64.wrap ↑(BitVec.ofInt IntKind.i64.bits (IntKind.i64.wrap (real_s8_l9 * 2 ^ (min (Int.toNat (p1)) IntKind.i64.bits))) ||| BitVec.ofInt IntKind.i64.bits x13).toNat)), (7, Vi 0)] (x_ek (c_ret (k_then_ret (r_ret (r_vals [Vi (IntKind.i64.wrap ↑(BitVec.ofInt IntKind.i64.bits (IntKind.i64.wrap (real_s8_l9 * 2 ^ (min (Int.toNat (p1)) IntKind.i64.bits))) ||| BitVec.ofInt IntKind.i64.bits x13).toNat), Vi 0] ⟨rfl, rfl, trivial⟩ ?_))))))
   obtain rfl := some_inj h
   exact ⟨rfl, hev⟩
 refine c_skip (k_then (c_sp (x_u 2 [(6, Vi 0), (7, Vi 15)] (x_ek (c_ret ?_)))))
 refine r_ret (r_vals [Vi 0, Vi 15] ⟨rfl, rfl, trivial⟩ ?_)
 obtain rfl := some_inj h
 exact ⟨rfl, hev⟩
def code_Steps_L4 (s : Int × Int) : Option (Step (Int × Int) Int) :=
match s with
| (k_s0_l4, n_s4_l4) =>
(if (decide (k_s0_l4 > 0)) = true then
some (.next (Int.fdiv k_s0_l4 (2 ^ (min (Int.toNat (1)) IntKind.i64.bits)), IntKind.i64.wrap (n_s4_l4 + 1)))
else
some (.done n_s4_l4))
def code_Steps (p0 : Int) : Option (Int × Int) :=
((code_in p0 0 4095).bind fun x2 =>
(if (!x2) = true then
some (0, 2)
else
((loop code_Steps_L4 (p0, 0)).bind fun d => match d with
| n_s4_x4 => some (n_s4_x4, 0))))
theorem code_Steps_w (p0 : Int) (r : Int × Int) (w : World) (h : code_Steps p0 = some r) : CallVC Tryz.prog 81 [Vi p0] w fun v w' => v = .tuple #[Vi r.1, Vi r.2] ∧ Ev [] w w' := by
 refine calls_vc hmx Tryz.func81 (by kernel_rfl) rfl (rs := [.tmp 2, .tmp 3]) rfl (by kernel_rfl) (args := [Vi p0]) rfl ?_
 have hev : Ev [] w w := Ev.refl _ _
 have hms : MS w [[]] := ⟨List.pairwise_singleton _ _, fun l hl b hb => by simp only [List.mem_singleton] at hl; subst hl; cases hb⟩
 have hfr : FR w.heap.size [] := FR.nil _
 refine c_sp (x_u 2 [(2, Vi 0), (3, Vi 0)] (x_ek (c_seq (c_sp (x_u 1 [(5, Vi p0)] ?_)))))
 obtain ⟨x2, hx, h⟩ := bind_some h
 have hcall := code_in_w p0 0 4095 _ w hx
 refine x_call 112 #[] #[] [Vi p0, Vi 0, Vi 4095] _ rfl rfl rfl rfl hcall ?_
 rintro v w3 ⟨rfl, he3⟩
 clear hcall hx
 refine inl1 ?_
 replace hms := hms.ev he3
 replace hev := hev.ext he3
 refine x_u 1 [(7, .bool (!x2))] (x_ek (c_if (!x2) rfl h (fun h => ?_) (fun h => ?_)))
 · refine c_sp (x_u 2 [(2, Vi 0), (3, Vi 2)] (x_ek (c_ret (k_then_ret (r_ret (r_vals [Vi 0, Vi 2] ⟨rfl, rfl, trivial⟩ ?_))))))
   obtain rfl := some_inj h
   exact ⟨rfl, hev⟩
 refine c_skip (k_then (c_sp (x_u 1 [(4, Vi 0)] (x_ek (c_seq ?_)))))
 refine c_block ?_
 obtain ⟨d4, hd4, h4⟩ := bind_some h
 obtain ⟨m4, hd4⟩ := loop_some hd4
 refine c_loop (loop_rule hmx (σ := Nat × Int × Int) (fun s => match s with | (_, k_s0_l4, n_s4_l4) => [(0, Vi k_s0_l4), (4, Vi n_s4_l4)]) (fun s w' => match s with | (m, k_s0_l4, n_s4_l4) => loopN code_Steps_L4 m (k_s0_l4, n_s4_l4) = some d4 ∧ Ev [] w w' ∧ MS w' [[]] ∧ FR w.heap.size []) (fun s => s.1) (m4, p0, 0) ⟨rfl, rfl, trivial⟩ ⟨hd4, hev, hms, hfr⟩ ?_)
 rintro ⟨m4, k_s0_l4, n_s4_l4⟩ J wl4 ⟨hn4, hev, hms, hfr⟩
 rcases m4 with _ | m4
 · exact (loopN_zero hn4).elim
 obtain ⟨t4, h, hn4⟩ := bind_some hn4
 refine c_seq (c_sp (x_u 2 [(8, Vi k_s0_l4), (9, .bool (decide (k_s0_l4 > 0)))] (x_ek (c_nm [(0, Vi k_s0_l4), (4, Vi n_s4_l4), (9, .bool (decide (k_s0_l4 > 0)))] (fun J => ?_)))))
 refine c_if (decide (k_s0_l4 > 0)) rfl h (fun h => ?_) (fun h => ?_)
 · refine c_skip (k_then (c_seq (c_block (c_plain (x_u 3 [(12, Vi n_s4_l4), (13, Vi (IntKind.i64.wrap (n_s4_l4 + 1))), (4, Vi (IntKind.i64.wrap (n_s4_l4 + 1)))] ?_)))))
   refine x_end rfl (k_block (k_then (c_plain (x_u 3 [(10, Vi k_s0_l4), (11, Vi (Int.fdiv k_s0_l4 (2 ^ (min (Int.toNat (1)) IntKind.i64.bits)))), (0, Vi (Int.fdiv k_s0_l4 (2 ^ (min (Int.toNat (1)) IntKind.i64.bits))))] (x_end rfl ?_)))))
   obtain rfl := some_inj h
   exact k_then ⟨(m4, Int.fdiv k_s0_l4 (2 ^ (min (Int.toNat (1)) IntKind.i64.bits)), IntKind.i64.wrap (n_s4_l4 + 1)), ⟨rfl, rfl, trivial⟩, ⟨hn4, hev, hms, hfr⟩, Nat.lt_succ_self _⟩
 refine c_exit (k_then_exit ?_)
 obtain rfl := some_inj h
 have hy := some_inj hn4
 subst hy
 replace h := h4
 refine k_then_exit (k_block_in (k_then (c_nm [(4, Vi n_s4_l4)] (fun J => ?_))))
 refine c_sp (x_u 3 [(14, Vi n_s4_l4), (2, Vi n_s4_l4), (3, Vi 0)] (x_ek (c_ret (r_ret (r_vals [Vi n_s4_l4, Vi 0] ⟨rfl, rfl, trivial⟩ ?_)))))
 obtain rfl := some_inj h
 exact ⟨rfl, hev⟩
def code_Is (p0 : Int) (p1 : Int) (p2 : Int) : Option Bool :=
((code_form p1 p2).bind fun x1 =>
(if x1 = true then
((code_in p0 0 4095).bind fun x3 =>
(if x3 = true then
((code_missed p1).bind fun x5 =>
((code_missed p1).bind fun x7 =>
(if ((IntKind.i64.wrap ↑(BitVec.ofInt IntKind.i64.bits p0 &&& BitVec.ofInt IntKind.i64.bits x5).toNat) == x7) = true then
(if 0 ≤ p1 then
((code_ones (Int.fdiv p0 (2 ^ (min (Int.toNat (p1)) IntKind.i64.bits)))).bind fun x9 =>
some (decide (x9 ≤ p2)))
else none)
else
some false)))
else
some false))
else
some false))
theorem code_Is_w (p0 : Int) (p1 : Int) (p2 : Int) (r : Bool) (w : World) (h : code_Is p0 p1 p2 = some r) : CallVC Tryz.prog 85 [Vi p0, Vi p1, Vi p2] w fun v w' => v = .bool r ∧ Ev [] w w' := by
 refine calls_vc hmx Tryz.func85 (by kernel_rfl) rfl (rs := [.tmp 6]) rfl (by kernel_rfl) (args := [Vi p0, Vi p1, Vi p2]) rfl ?_
 have hev : Ev [] w w := Ev.refl _ _
 have hms : MS w [[]] := ⟨List.pairwise_singleton _ _, fun l hl b hb => by simp only [List.mem_singleton] at hl; subst hl; cases hb⟩
 refine c_sp (x_u 1 [(6, .bool false)] (x_ek (c_sp (x_u 2 [(7, Vi p1), (8, Vi p2)] ?_))))
 obtain ⟨x1, hx, h⟩ := bind_some h
 have hcall := code_form_w p1 p2 _ w hx
 refine x_call 113 #[] #[] [Vi p1, Vi p2] _ rfl rfl rfl rfl hcall ?_
 rintro v w2 ⟨rfl, he2⟩
 clear hcall hx
 refine inl1 ?_
 replace hev := hev.ext he2
 refine x_u 1 [(10, .bool x1)] (x_if 10 x1 rfl h (fun h => ?_) (fun h => ?_))
 · refine x_u 1 [(11, Vi p0)] ?_
   obtain ⟨x3, hx, h⟩ := bind_some h
   have hcall := code_in_w p0 0 4095 _ w2 hx
   refine x_call 112 #[] #[] [Vi p0, Vi 0, Vi 4095] _ rfl rfl rfl rfl hcall ?_
   rintro v w4 ⟨rfl, he4⟩
   clear hcall hx
   refine inl1 ?_
   replace hev := hev.ext he4
   refine x_u 2 [(13, .bool x3), (14, .bool x3)] (x_if 14 x3 rfl h (fun h => ?_) (fun h => ?_))
   · refine x_u 2 [(15, Vi p0), (16, Vi p1)] ?_
     obtain ⟨x5, hx, h⟩ := bind_some h
     have hcall := code_missed_w p1 _ w4 hx
     refine x_call 114 #[] #[] [Vi p1] _ rfl rfl rfl rfl hcall ?_
     rintro v w6 ⟨rfl, he6⟩
     clear hcall hx
     refine inl1 ?_
     replace hev := hev.ext he6
     refine x_u 2 [(18, Vi (IntKind.i64.wrap ↑(BitVec.ofInt IntKind.i64.bits p0 &&& BitVec.ofInt IntKind.i64.bits x5).toNat)), (19, Vi p1)] ?_
     obtain ⟨x7, hx, h⟩ := bind_some h
     have hcall := code_missed_w p1 _ w6 hx
     refine x_call 114 #[] #[] [Vi p1] _ rfl rfl rfl rfl hcall ?_
     rintro v w8 ⟨rfl, he8⟩
     clear hcall hx
     refine inl1 ?_
     replace hev := hev.ext he8
     refine x_u 3 [(21, .bool ((IntKind.i64.wrap ↑(BitVec.ofInt IntKind.i64.bits p0 &&& BitVec.ofInt IntKind.i64.bits x5).toNat) == x7)), (22, .bool ((IntKind.i64.wrap ↑(BitVec.ofInt IntKind.i64.bits p0 &&& BitVec.ofInt IntKind.i64.bits x5).toNat) == x7)), (23, .bool ((IntKind.i64.wrap ↑(BitVec.ofInt IntKind.i64.bits p0 &&& BitVec.ofInt IntKind.i64.bits x5).toNat) == x7))] (x_if 23 ((IntKind.i64.wrap ↑(BitVec.ofInt IntKind.i64.bits p0 &&& BitVec.ofInt IntKind.i64.bits x5).toNat) == x7) rfl h (fun h => ?_) (fun h => ?_))
     · refine x_u 2 [(24, Vi p0), (25, Vi p1)] (x_binop (Vi (Int.fdiv p0 (2 ^ (min (Int.toNat (p1)) IntKind.i64.bits)))) (Vi p0) (Vi p1) rfl rfl rfl rfl (vb_shr (guard_l h)) ?_)
       replace h := guard_r h
       obtain ⟨x9, hx, h⟩ := bind_some h
       have hcall := code_ones_w (Int.fdiv p0 (2 ^ (min (Int.toNat (p1)) IntKind.i64.bits))) _ w8 hx
       refine x_call 115 #[] #[] [Vi (Int.fdiv p0 (2 ^ (min (Int.toNat (p1)) IntKind.i64.bits)))] _ rfl rfl rfl rfl hcall ?_
       rintro v w10 ⟨rfl, he10⟩
       clear hcall hx
       refine inl1 ?_
       replace hev := hev.ext he10
       refine x_u 4 [(28, Vi p2), (29, .bool (decide (x9 ≤ p2))), (30, .bool (decide (x9 ≤ p2))), (6, .bool (decide (x9 ≤ p2)))] (x_ek (c_nm [(6, .bool (decide (x9 ≤ p2)))] (fun J => ?_)))
       refine c_ret (r_ret (r_vals [.bool (decide (x9 ≤ p2))] ⟨rfl, trivial⟩ ?_))
       obtain rfl := some_inj h
       exact ⟨rfl, hev⟩
     refine x_u 8 [(24, undef), (25, undef), (26, undef), (27, undef), (28, undef), (29, undef), (30, .bool false), (6, .bool false)] (x_ek (c_nm [(6, .bool false)] (fun J => ?_)))
     refine c_ret (r_ret (r_vals [.bool false] ⟨rfl, trivial⟩ ?_))
     obtain rfl := some_inj h
     exact ⟨rfl, hev⟩
   refine x_u 17 [(15, undef), (16, undef), (17, undef), (18, undef), (19, undef), (20, undef), (21, undef), (22, .bool false), (23, .bool false), (24, undef), (25, undef), (26, undef), (27, undef), (28, undef), (29, undef), (30, .bool false), (6, .bool false)] (x_ek (c_nm [(6, .bool false)] (fun J => ?_)))
   refine c_ret (r_ret (r_vals [.bool false] ⟨rfl, trivial⟩ ?_))
   obtain rfl := some_inj h
   exact ⟨rfl, hev⟩
 refine x_u 21 [(11, undef), (12, undef), (13, .bool false), (14, .bool false), (15, undef), (16, undef), (17, undef), (18, undef), (19, undef), (20, undef), (21, undef), (22, .bool false), (23, .bool false), (24, undef), (25, undef), (26, undef), (27, undef), (28, undef), (29, undef), (30, .bool false), (6, .bool false)] (x_ek (c_nm [(6, .bool false)] (fun J => ?_)))
 refine c_ret (r_ret (r_vals [.bool false] ⟨rfl, trivial⟩ ?_))
 obtain rfl := some_inj h
 exact ⟨rfl, hev⟩
end Go.Proofs.YtlejnkhaphlooaaGreat
