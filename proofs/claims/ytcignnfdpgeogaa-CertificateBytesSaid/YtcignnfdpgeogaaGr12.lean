
/- Walks, printed by program: each function returns what the partial function of the same name returns. Conditions: those of each theorem. -/
import Derived.Test.YtcignnfdpgeogaaGT
set_option linter.unusedVariables false
set_option linter.unusedSimpArgs false
set_option maxRecDepth 4000
namespace Go.Proofs.Ytcignnfdpgeogaa
open Go Go.V Go.Proofs
def r12_form (p0 : Int) (p1 : Int) : Option Bool :=
(if (decide (p0 ≥ 0)) = true then
(if (decide (p0 < 13)) = true then
(if (decide (p1 ≥ 0)) = true then
some (decide (p1 ≤ 12))
else
some false)
else
some false)
else
some false)

theorem r12_form_w (p0 : Int) (p1 : Int) (r : Bool) (w : World) (h : r12_form p0 p1 = some r) : CallVC Try.prog 70 [Vi p0, Vi p1] w fun v w' => v = .bool r ∧ Ev [] w w' := by
 refine calls_vc hmx Try.func70 (by kernel_rfl) rfl (rs := [.tmp 4]) rfl (by kernel_rfl) (args := [Vi p0, Vi p1]) rfl ?_
 have hev : Ev [] w w := Ev.refl _ _
 have hms : MS w [[]] := ⟨List.pairwise_singleton _ _, fun l hl b hb => by simp only [List.mem_singleton] at hl; subst hl; cases hb⟩
 have hfr : FR w.heap.size [] := FR.nil _
 refine c_sp ?_
 refine x_u 1 [(4, .bool false)] ?_
 refine x_ek ?_
 refine c_sp ?_
 refine x_u 3 [(5, Vi p0), (6, .bool (decide (p0 ≥ 0))), (7, .bool (decide (p0 ≥ 0)))] ?_
 refine x_if 7 (decide (p0 ≥ 0)) rfl h (fun h => ?_) (fun h => ?_)
 · refine x_u 4 [(8, Vi p0), (9, .bool (decide (p0 < 13))), (10, .bool (decide (p0 < 13))), (11, .bool (decide (p0 < 13)))] ?_
   refine x_if 11 (decide (p0 < 13)) rfl h (fun h => ?_) (fun h => ?_)
   · refine x_u 4 [(12, Vi p1), (13, .bool (decide (p1 ≥ 0))), (14, .bool (decide (p1 ≥ 0))), (15, .bool (decide (p1 ≥ 0)))] ?_
     refine x_if 15 (decide (p1 ≥ 0)) rfl h (fun h => ?_) (fun h => ?_)
     · refine x_u 4 [(16, Vi p1), (17, .bool (decide (p1 ≤ 12))), (18, .bool (decide (p1 ≤ 12))), (4, .bool (decide (p1 ≤ 12)))] ?_
       refine x_ek ?_
       refine c_norm [(4, .bool (decide (p1 ≤ 12)))] ⟨rfl, trivial⟩ (fun J => ?_)
       refine c_ret ?_
       refine r_ret (r_vals [.bool (decide (p1 ≤ 12))] ⟨rfl, trivial⟩ ?_)
       have hx := some_inj h
       subst hx
       exact ⟨rfl, hev⟩
     refine x_u 4 [(16, undef), (17, undef), (18, .bool false), (4, .bool false)] ?_
     refine x_ek ?_
     refine c_norm [(4, .bool false)] ⟨rfl, trivial⟩ (fun J => ?_)
     refine c_ret ?_
     refine r_ret (r_vals [.bool false] ⟨rfl, trivial⟩ ?_)
     have hx := some_inj h
     subst hx
     exact ⟨rfl, hev⟩
   refine x_u 8 [(12, undef), (13, undef), (14, .bool false), (15, .bool false), (16, undef), (17, undef), (18, .bool false), (4, .bool false)] ?_
   refine x_ek ?_
   refine c_norm [(4, .bool false)] ⟨rfl, trivial⟩ (fun J => ?_)
   refine c_ret ?_
   refine r_ret (r_vals [.bool false] ⟨rfl, trivial⟩ ?_)
   have hx := some_inj h
   subst hx
   exact ⟨rfl, hev⟩
 refine x_u 12 [(8, undef), (9, undef), (10, .bool false), (11, .bool false), (12, undef), (13, undef), (14, .bool false), (15, .bool false), (16, undef), (17, undef), (18, .bool false), (4, .bool false)] ?_
 refine x_ek ?_
 refine c_norm [(4, .bool false)] ⟨rfl, trivial⟩ (fun J => ?_)
 refine c_ret ?_
 refine r_ret (r_vals [.bool false] ⟨rfl, trivial⟩ ?_)
 have hx := some_inj h
 subst hx
 exact ⟨rfl, hev⟩
def r12_Is_L4 (s : Int × Int) : Option (Step (Int × Int) Int) :=
match s with
| (n_s7_l4, x_s8_l4) =>
(if (decide (x_s8_l4 > 0)) = true then
some (.next (IntKind.i64.wrap (n_s7_l4 + (Int.tmod x_s8_l4 2)), IntKind.i64.wrap (Int.tdiv x_s8_l4 2)))
else
some (.done n_s7_l4))

def r12_Is (p0 : Int) (p1 : Int) (p2 : Int) : Option Bool :=
((r12_form p1 p2).bind fun x2 =>
(if (!x2) = true then
some false
else
(if (decide (p0 < 0)) = true then
some false
else
(if (decide (p0 ≥ 4096)) = true then
some false
else
(if 0 ≤ p1 then
(if IntKind.i64.wrap (1 * 2 ^ (min (Int.toNat (p1)) IntKind.i64.bits)) ≠ 0 then
(if 0 ≤ p1 then
(if ((Int.tmod p0 (IntKind.i64.wrap (1 * 2 ^ (min (Int.toNat (p1)) IntKind.i64.bits)))) != (IntKind.i64.wrap ((IntKind.i64.wrap (1 * 2 ^ (min (Int.toNat (p1)) IntKind.i64.bits))) - 1))) = true then
some false
else
(if 0 ≤ p1 then
((loop r12_Is_L4 (0, Int.fdiv p0 (2 ^ (min (Int.toNat (p1)) IntKind.i64.bits)))).bind fun d => match d with
| n_s7_x4 => some (decide (n_s7_x4 ≤ p2)))
else none))
else none)
else none)
else none)))))

theorem r12_Is_w (p0 : Int) (p1 : Int) (p2 : Int) (r : Bool) (w : World) (h : r12_Is p0 p1 p2 = some r) : CallVC Try.prog 65 [Vi p0, Vi p1, Vi p2] w fun v w' => v = .bool r ∧ Ev [] w w' := by
 refine calls_vc hmx Try.func65 (by kernel_rfl) rfl (rs := [.tmp 6]) rfl (by kernel_rfl) (args := [Vi p0, Vi p1, Vi p2]) rfl ?_
 have hev : Ev [] w w := Ev.refl _ _
 have hms : MS w [[]] := ⟨List.pairwise_singleton _ _, fun l hl b hb => by simp only [List.mem_singleton] at hl; subst hl; cases hb⟩
 have hfr : FR w.heap.size [] := FR.nil _
 refine c_sp ?_
 refine x_u 1 [(6, .bool false)] ?_
 refine x_ek ?_
 refine c_seq ?_
 refine c_seq ?_
 refine c_drawn [] [(0, false), (1, false), (2, true), (3, false), (4, false), (5, false), (6, false), (7, false), (8, false), (9, false), (10, false), (11, false), (12, false), (13, false), (14, false), (15, false), (16, false), (17, false), (18, false), (19, false), (20, false), (21, false)] _ (by kernel_rfl) rfl ?_
 replace hms := hms.ev (Ev.drew w)
 replace hev := hev.ext (Ev.drew w)
 refine x_u 2 [(9, Vi p1), (10, Vi p2)] ?_
 obtain ⟨x2, hx, h⟩ := bind_some h
 have hcall := r12_form_w p1 p2 _ (w).drew hx
 refine x_call 70 #[] #[] [Vi p1, Vi p2] _ rfl rfl rfl rfl hcall ?_
 rintro v w3 ⟨rfl, he3⟩
 clear hcall hx
 refine inl1 ?_
 replace hms := hms.ev he3
 replace hev := hev.ext he3
 refine x_u 2 [(12, .bool (!x2)), (13, .bool (!x2))] ?_
 refine x_if 13 (!x2) rfl h (fun h => ?_) (fun h => ?_)
 · refine x_u 17 [(14, undef), (15, undef), (16, .bool true), (17, .bool true), (18, undef), (19, undef), (20, .bool true), (21, .bool true), (22, undef), (23, undef), (24, undef), (25, undef), (26, undef), (27, undef), (28, undef), (29, undef), (30, .bool true)] ?_
   refine x_ek ?_
   refine c_norm [(0, Vi p0), (1, Vi p1), (2, Vi p2), (30, .bool true)] ⟨rfl, rfl, rfl, rfl, trivial⟩ (fun J => ?_)
   refine c_true rfl ?_
   refine c_sp ?_
   refine x_u 1 [(6, .bool false)] ?_
   refine x_ek ?_
   refine c_ret ?_
   refine k_then_ret ?_
   refine r_ret (r_vals [.bool false] ⟨rfl, trivial⟩ ?_)
   have hx := some_inj h
   subst hx
   exact ⟨rfl, hev⟩
 refine x_u 4 [(14, Vi p0), (15, .bool (decide (p0 < 0))), (16, .bool (decide (p0 < 0))), (17, .bool (decide (p0 < 0)))] ?_
 refine x_if 17 (decide (p0 < 0)) rfl h (fun h => ?_) (fun h => ?_)
 · refine x_u 13 [(18, undef), (19, undef), (20, .bool true), (21, .bool true), (22, undef), (23, undef), (24, undef), (25, undef), (26, undef), (27, undef), (28, undef), (29, undef), (30, .bool true)] ?_
   refine x_ek ?_
   refine c_norm [(0, Vi p0), (1, Vi p1), (2, Vi p2), (30, .bool true)] ⟨rfl, rfl, rfl, rfl, trivial⟩ (fun J => ?_)
   refine c_true rfl ?_
   refine c_sp ?_
   refine x_u 1 [(6, .bool false)] ?_
   refine x_ek ?_
   refine c_ret ?_
   refine k_then_ret ?_
   refine r_ret (r_vals [.bool false] ⟨rfl, trivial⟩ ?_)
   have hx := some_inj h
   subst hx
   exact ⟨rfl, hev⟩
 refine x_u 4 [(18, Vi p0), (19, .bool (decide (p0 ≥ 4096))), (20, .bool (decide (p0 ≥ 4096))), (21, .bool (decide (p0 ≥ 4096)))] ?_
 refine x_if 21 (decide (p0 ≥ 4096)) rfl h (fun h => ?_) (fun h => ?_)
 · refine x_u 9 [(22, undef), (23, undef), (24, undef), (25, undef), (26, undef), (27, undef), (28, undef), (29, undef), (30, .bool true)] ?_
   refine x_ek ?_
   refine c_norm [(0, Vi p0), (1, Vi p1), (2, Vi p2), (30, .bool true)] ⟨rfl, rfl, rfl, rfl, trivial⟩ (fun J => ?_)
   refine c_true rfl ?_
   refine c_sp ?_
   refine x_u 1 [(6, .bool false)] ?_
   refine x_ek ?_
   refine c_ret ?_
   refine k_then_ret ?_
   refine r_ret (r_vals [.bool false] ⟨rfl, trivial⟩ ?_)
   have hx := some_inj h
   subst hx
   exact ⟨rfl, hev⟩
 refine x_u 2 [(22, Vi p0), (23, Vi p1)] ?_
 refine x_binop (Vi (IntKind.i64.wrap (1 * 2 ^ (min (Int.toNat (p1)) IntKind.i64.bits)))) (Vi 1) (Vi p1) rfl rfl rfl rfl (vb_shl (guard_l h)) ?_
 replace h := guard_r h
 refine x_binop (Vi (Int.tmod p0 (IntKind.i64.wrap (1 * 2 ^ (min (Int.toNat (p1)) IntKind.i64.bits))))) (Vi p0) (Vi (IntKind.i64.wrap (1 * 2 ^ (min (Int.toNat (p1)) IntKind.i64.bits)))) rfl rfl rfl rfl (vb_rem (guard_l h)) ?_
 replace h := guard_r h
 refine x_u 1 [(26, Vi p1)] ?_
 refine x_binop (Vi (IntKind.i64.wrap (1 * 2 ^ (min (Int.toNat (p1)) IntKind.i64.bits)))) (Vi 1) (Vi p1) rfl rfl rfl rfl (vb_shl (guard_l h)) ?_
 replace h := guard_r h
 refine x_u 3 [(28, Vi (IntKind.i64.wrap ((IntKind.i64.wrap (1 * 2 ^ (min (Int.toNat (p1)) IntKind.i64.bits))) - 1))), (29, .bool ((Int.tmod p0 (IntKind.i64.wrap (1 * 2 ^ (min (Int.toNat (p1)) IntKind.i64.bits)))) != (IntKind.i64.wrap ((IntKind.i64.wrap (1 * 2 ^ (min (Int.toNat (p1)) IntKind.i64.bits))) - 1)))), (30, .bool ((Int.tmod p0 (IntKind.i64.wrap (1 * 2 ^ (min (Int.toNat (p1)) IntKind.i64.bits)))) != (IntKind.i64.wrap ((IntKind.i64.wrap (1 * 2 ^ (min (Int.toNat (p1)) IntKind.i64.bits))) - 1))))] ?_
 refine x_ek ?_
 refine c_norm [(0, Vi p0), (1, Vi p1), (2, Vi p2), (30, .bool ((Int.tmod p0 (IntKind.i64.wrap (1 * 2 ^ (min (Int.toNat (p1)) IntKind.i64.bits)))) != (IntKind.i64.wrap ((IntKind.i64.wrap (1 * 2 ^ (min (Int.toNat (p1)) IntKind.i64.bits))) - 1))))] ⟨rfl, rfl, rfl, rfl, trivial⟩ (fun J => ?_)
 refine c_if ((Int.tmod p0 (IntKind.i64.wrap (1 * 2 ^ (min (Int.toNat (p1)) IntKind.i64.bits)))) != (IntKind.i64.wrap ((IntKind.i64.wrap (1 * 2 ^ (min (Int.toNat (p1)) IntKind.i64.bits))) - 1))) rfl h (fun h => ?_) (fun h => ?_)
 · refine c_sp ?_
   refine x_u 1 [(6, .bool false)] ?_
   refine x_ek ?_
   refine c_ret ?_
   refine k_then_ret ?_
   refine r_ret (r_vals [.bool false] ⟨rfl, trivial⟩ ?_)
   have hx := some_inj h
   subst hx
   exact ⟨rfl, hev⟩
 refine c_skip ?_
 refine k_then ?_
 refine c_sp ?_
 refine x_u 1 [(7, Vi 0)] ?_
 refine x_ek ?_
 refine c_seq ?_
 refine c_sp ?_
 refine x_u 2 [(31, Vi p0), (32, Vi p1)] ?_
 refine x_binop (Vi (Int.fdiv p0 (2 ^ (min (Int.toNat (p1)) IntKind.i64.bits)))) (Vi p0) (Vi p1) rfl rfl rfl rfl (vb_shr (guard_l h)) ?_
 replace h := guard_r h
 refine x_u 1 [(8, Vi (Int.fdiv p0 (2 ^ (min (Int.toNat (p1)) IntKind.i64.bits))))] ?_
 refine x_ek ?_
 refine c_block ?_
 obtain ⟨d4, hd4, h4⟩ := bind_some h
 obtain ⟨m4, hd4⟩ := loop_some hd4
 refine c_loop (loop_rule hmx (σ := Nat × Int × Int) (fun s => match s with | (_, n_s7_l4, x_s8_l4) => [(2, Vi p2), (7, Vi n_s7_l4), (8, Vi x_s8_l4)]) (fun s w' => match s with | (m, n_s7_l4, x_s8_l4) => loopN r12_Is_L4 m (n_s7_l4, x_s8_l4) = some d4 ∧ Ev [] w w' ∧ MS w' [[]] ∧ FR w.heap.size []) (fun s => s.1) (m4, 0, Int.fdiv p0 (2 ^ (min (Int.toNat (p1)) IntKind.i64.bits))) ⟨rfl, rfl, rfl, trivial⟩ ⟨hd4, hev, hms, hfr⟩ ?_)
 rintro ⟨m4, n_s7_l4, x_s8_l4⟩ J wl4 ⟨hn4, hev, hms, hfr⟩
 rcases m4 with _ | m4
 · exact (loopN_zero hn4).elim
 obtain ⟨t4, h, hn4⟩ := bind_some hn4
 refine c_seq ?_
 refine c_sp ?_
 refine x_u 2 [(34, Vi x_s8_l4), (35, .bool (decide (x_s8_l4 > 0)))] ?_
 refine x_ek ?_
 refine c_norm [(2, Vi p2), (7, Vi n_s7_l4), (8, Vi x_s8_l4), (35, .bool (decide (x_s8_l4 > 0)))] ⟨rfl, rfl, rfl, rfl, trivial⟩ (fun J => ?_)
 refine c_if (decide (x_s8_l4 > 0)) rfl h (fun h => ?_) (fun h => ?_)
 · refine c_skip ?_
   refine k_then ?_
   refine c_seq ?_
   refine c_block ?_
   refine c_plain ?_
   refine x_u 5 [(38, Vi n_s7_l4), (39, Vi x_s8_l4), (40, Vi (Int.tmod x_s8_l4 2)), (41, Vi (IntKind.i64.wrap (n_s7_l4 + (Int.tmod x_s8_l4 2)))), (7, Vi (IntKind.i64.wrap (n_s7_l4 + (Int.tmod x_s8_l4 2))))] ?_
   refine x_end rfl ?_
   refine k_block ?_
   refine k_then ?_
   refine c_plain ?_
   refine x_u 3 [(36, Vi x_s8_l4), (37, Vi (IntKind.i64.wrap (Int.tdiv x_s8_l4 2))), (8, Vi (IntKind.i64.wrap (Int.tdiv x_s8_l4 2)))] ?_
   refine x_end rfl ?_
   have hx := some_inj h
   subst hx
   exact k_then ⟨(m4, IntKind.i64.wrap (n_s7_l4 + (Int.tmod x_s8_l4 2)), IntKind.i64.wrap (Int.tdiv x_s8_l4 2)), ⟨rfl, rfl, rfl, trivial⟩, ⟨hn4, hev, hms, hfr⟩, Nat.lt_succ_self _⟩
 refine c_exit ?_
 refine k_then_exit ?_
 have hx := some_inj h
 subst hx
 have hy := some_inj hn4
 subst hy
 replace h := h4
 refine k_then_exit ?_
 refine k_block_in ?_
 refine k_then ?_
 refine c_norm [(2, Vi p2), (7, Vi n_s7_l4)] ⟨rfl, rfl, trivial⟩ (fun J => ?_)
 refine c_sp ?_
 refine x_u 4 [(42, Vi n_s7_l4), (43, Vi p2), (44, .bool (decide (n_s7_l4 ≤ p2))), (6, .bool (decide (n_s7_l4 ≤ p2)))] ?_
 refine x_ek ?_
 refine c_ret ?_
 refine r_ret (r_vals [.bool (decide (n_s7_l4 ≤ p2))] ⟨rfl, trivial⟩ ?_)
 have hx := some_inj h
 subst hx
 exact ⟨rfl, hev⟩
def r12_Next_L4 (p1 : Int) (p2 : Int) (s : Int) : Option (Step Int (Int ⊕ Unit)) :=
match s with
| k_s8_l4 =>
(if (decide (k_s8_l4 < 4096)) = true then
((r12_Is k_s8_l4 p1 p2).bind fun x6 =>
(if x6 = true then
some (.done (.inl k_s8_l4))
else
some (.next (IntKind.i64.wrap (k_s8_l4 + 1)))))
else
some (.done (.inr ())))

def r12_Next (p0 : Int) (p1 : Int) (p2 : Int) : Option (Int × Int) :=
((r12_form p1 p2).bind fun x2 =>
(if (!x2) = true then
some (0, 2)
else
(if (decide (p0 < 0)) = true then
some (0, 2)
else
((loop (r12_Next_L4 p1 p2) p0).bind fun d => match d with
| (.inl t6__s6_x400) => some (t6__s6_x400, 0)
| (.inr _) => some (0, 15)))))

theorem r12_Next_w (p0 : Int) (p1 : Int) (p2 : Int) (r : Int × Int) (w : World) (h : r12_Next p0 p1 p2 = some r) : CallVC Try.prog 58 [Vi p0, Vi p1, Vi p2] w fun v w' => v = .tuple #[Vi r.1, Vi r.2] ∧ Ev [] w w' := by
 refine calls_vc hmx Try.func58 (by kernel_rfl) rfl (rs := [.tmp 6, .tmp 7]) rfl (by kernel_rfl) (args := [Vi p0, Vi p1, Vi p2]) rfl ?_
 have hev : Ev [] w w := Ev.refl _ _
 have hms : MS w [[]] := ⟨List.pairwise_singleton _ _, fun l hl b hb => by simp only [List.mem_singleton] at hl; subst hl; cases hb⟩
 have hfr : FR w.heap.size [] := FR.nil _
 refine c_sp ?_
 refine x_u 2 [(6, Vi 0), (7, Vi 0)] ?_
 refine x_ek ?_
 refine c_seq ?_
 refine c_sp ?_
 refine x_u 2 [(9, Vi p1), (10, Vi p2)] ?_
 obtain ⟨x2, hx, h⟩ := bind_some h
 have hcall := r12_form_w p1 p2 _ w hx
 refine x_call 70 #[] #[] [Vi p1, Vi p2] _ rfl rfl rfl rfl hcall ?_
 rintro v w3 ⟨rfl, he3⟩
 clear hcall hx
 refine inl1 ?_
 replace hms := hms.ev he3
 replace hev := hev.ext he3
 refine x_u 2 [(12, .bool (!x2)), (13, .bool (!x2))] ?_
 refine x_if 13 (!x2) rfl h (fun h => ?_) (fun h => ?_)
 · refine x_u 3 [(14, undef), (15, undef), (16, .bool true)] ?_
   refine x_ek ?_
   refine c_true rfl ?_
   refine c_sp ?_
   refine x_u 2 [(6, Vi 0), (7, Vi 2)] ?_
   refine x_ek ?_
   refine c_ret ?_
   refine k_then_ret ?_
   refine r_ret (r_vals [Vi 0, Vi 2] ⟨rfl, rfl, trivial⟩ ?_)
   have hx := some_inj h
   subst hx
   exact ⟨rfl, hev⟩
 refine x_u 3 [(14, Vi p0), (15, .bool (decide (p0 < 0))), (16, .bool (decide (p0 < 0)))] ?_
 refine x_ek ?_
 refine c_if (decide (p0 < 0)) rfl h (fun h => ?_) (fun h => ?_)
 · refine c_sp ?_
   refine x_u 2 [(6, Vi 0), (7, Vi 2)] ?_
   refine x_ek ?_
   refine c_norm [(6, Vi 0), (7, Vi 2)] ⟨rfl, rfl, trivial⟩ (fun J => ?_)
   refine c_ret ?_
   refine k_then_ret ?_
   refine r_ret (r_vals [Vi 0, Vi 2] ⟨rfl, rfl, trivial⟩ ?_)
   have hx := some_inj h
   subst hx
   exact ⟨rfl, hev⟩
 refine c_skip ?_
 refine k_then ?_
 refine c_seq ?_
 refine c_sp ?_
 refine x_u 2 [(17, Vi p0), (8, Vi p0)] ?_
 refine x_ek ?_
 refine c_norm [(1, Vi p1), (2, Vi p2), (8, Vi p0)] ⟨rfl, rfl, rfl, trivial⟩ (fun J => ?_)
 refine c_block ?_
 obtain ⟨d4, hd4, h4⟩ := bind_some h
 obtain ⟨m4, hd4⟩ := loop_some hd4
 refine c_loop (loop_rule hmx (σ := Nat × Int) (fun s => match s with | (_, k_s8_l4) => [(1, Vi p1), (2, Vi p2), (8, Vi k_s8_l4)]) (fun s w' => match s with | (m, k_s8_l4) => loopN (r12_Next_L4 p1 p2) m k_s8_l4 = some d4 ∧ Ev [] w w' ∧ MS w' [[]] ∧ FR w.heap.size []) (fun s => s.1) (m4, p0) ⟨rfl, rfl, rfl, trivial⟩ ⟨hd4, hev, hms, hfr⟩ ?_)
 rintro ⟨m4, k_s8_l4⟩ J wl4 ⟨hn4, hev, hms, hfr⟩
 rcases m4 with _ | m4
 · exact (loopN_zero hn4).elim
 obtain ⟨t4, h, hn4⟩ := bind_some hn4
 refine c_seq ?_
 refine c_sp ?_
 refine x_u 2 [(18, Vi k_s8_l4), (19, .bool (decide (k_s8_l4 < 4096)))] ?_
 refine x_ek ?_
 refine c_norm [(1, Vi p1), (2, Vi p2), (8, Vi k_s8_l4), (19, .bool (decide (k_s8_l4 < 4096)))] ⟨rfl, rfl, rfl, rfl, trivial⟩ (fun J => ?_)
 refine c_if (decide (k_s8_l4 < 4096)) rfl h (fun h => ?_) (fun h => ?_)
 · refine c_skip ?_
   refine k_then ?_
   refine c_seq ?_
   refine c_block ?_
   refine c_sp ?_
   refine x_u 3 [(22, Vi k_s8_l4), (23, Vi p1), (24, Vi p2)] ?_
   obtain ⟨x6, hx, h⟩ := bind_some h
   have hcall := r12_Is_w k_s8_l4 p1 p2 _ wl4 hx
   refine x_call 65 #[] #[] [Vi k_s8_l4, Vi p1, Vi p2] _ rfl rfl rfl rfl hcall ?_
   rintro v w7 ⟨rfl, he7⟩
   clear hcall hx
   refine inl1 ?_
   replace hms := hms.ev he7
   replace hev := hev.ext he7
   refine x_ek ?_
   refine c_if x6 rfl h (fun h => ?_) (fun h => ?_)
   · refine c_sp ?_
     refine x_u 3 [(26, Vi k_s8_l4), (6, Vi k_s8_l4), (7, Vi 0)] ?_
     refine x_ek ?_
     refine c_ret ?_
     refine k_block_ret ?_
     refine k_then_ret ?_
     have hx := some_inj h
     subst hx
     have hy := some_inj hn4
     subst hy
     replace h := h4
     refine k_then_ret ?_
     refine k_block_ret ?_
     refine k_then_ret ?_
     refine r_ret (r_vals [Vi k_s8_l4, Vi 0] ⟨rfl, rfl, trivial⟩ ?_)
     have hx := some_inj h
     subst hx
     exact ⟨rfl, hev⟩
   refine c_skip ?_
   refine k_block ?_
   refine k_then ?_
   refine c_plain ?_
   refine x_u 3 [(20, Vi k_s8_l4), (21, Vi (IntKind.i64.wrap (k_s8_l4 + 1))), (8, Vi (IntKind.i64.wrap (k_s8_l4 + 1)))] ?_
   refine x_end rfl ?_
   have hx := some_inj h
   subst hx
   exact k_then ⟨(m4, IntKind.i64.wrap (k_s8_l4 + 1)), ⟨rfl, rfl, rfl, trivial⟩, ⟨hn4, hev, hms, hfr⟩, Nat.lt_succ_self _⟩
 refine c_exit ?_
 refine k_then_exit ?_
 have hx := some_inj h
 subst hx
 have hy := some_inj hn4
 subst hy
 replace h := h4
 refine k_then_exit ?_
 refine k_block_in ?_
 refine k_then ?_
 refine c_norm [] trivial (fun J => ?_)
 refine c_sp ?_
 refine x_u 2 [(6, Vi 0), (7, Vi 15)] ?_
 refine x_ek ?_
 refine c_ret ?_
 refine r_ret (r_vals [Vi 0, Vi 15] ⟨rfl, rfl, trivial⟩ ?_)
 have hx := some_inj h
 subst hx
 exact ⟨rfl, hev⟩
def r12_Long_L1 (s : Int × Int) : Option (Step (Int × Int) Int) :=
match s with
| (k_s0_l1, n_s3_l1) =>
(if (decide (k_s0_l1 > 0)) = true then
some (.next (IntKind.i64.wrap (Int.tdiv k_s0_l1 2), IntKind.i64.wrap (n_s3_l1 + 1)))
else
some (.done n_s3_l1))

def r12_Long (p0 : Int) : Option Int :=
((loop r12_Long_L1 (p0, 0)).bind fun d => match d with
| n_s3_x1 => some n_s3_x1)

theorem r12_Long_w (p0 : Int) (r : Int) (w : World) (h : r12_Long p0 = some r) : CallVC Try.prog 44 [Vi p0] w fun v w' => v = Vi r ∧ Ev [] w w' := by
 refine calls_vc hmx Try.func44 (by kernel_rfl) rfl (rs := [.tmp 2]) rfl (by kernel_rfl) (args := [Vi p0]) rfl ?_
 have hev : Ev [] w w := Ev.refl _ _
 have hms : MS w [[]] := ⟨List.pairwise_singleton _ _, fun l hl b hb => by simp only [List.mem_singleton] at hl; subst hl; cases hb⟩
 have hfr : FR w.heap.size [] := FR.nil _
 refine c_sp ?_
 refine x_u 1 [(2, Vi 0)] ?_
 refine x_ek ?_
 refine c_sp ?_
 refine x_u 1 [(3, Vi 0)] ?_
 refine x_ek ?_
 refine c_seq ?_
 refine c_block ?_
 obtain ⟨d1, hd1, h1⟩ := bind_some h
 obtain ⟨m1, hd1⟩ := loop_some hd1
 refine c_loop (loop_rule hmx (σ := Nat × Int × Int) (fun s => match s with | (_, k_s0_l1, n_s3_l1) => [(0, Vi k_s0_l1), (3, Vi n_s3_l1)]) (fun s w' => match s with | (m, k_s0_l1, n_s3_l1) => loopN r12_Long_L1 m (k_s0_l1, n_s3_l1) = some d1 ∧ Ev [] w w' ∧ MS w' [[]] ∧ FR w.heap.size []) (fun s => s.1) (m1, p0, 0) ⟨rfl, rfl, trivial⟩ ⟨hd1, hev, hms, hfr⟩ ?_)
 rintro ⟨m1, k_s0_l1, n_s3_l1⟩ J wl1 ⟨hn1, hev, hms, hfr⟩
 rcases m1 with _ | m1
 · exact (loopN_zero hn1).elim
 obtain ⟨t1, h, hn1⟩ := bind_some hn1
 refine c_seq ?_
 refine c_sp ?_
 refine x_u 2 [(4, Vi k_s0_l1), (5, .bool (decide (k_s0_l1 > 0)))] ?_
 refine x_ek ?_
 refine c_norm [(0, Vi k_s0_l1), (3, Vi n_s3_l1), (5, .bool (decide (k_s0_l1 > 0)))] ⟨rfl, rfl, rfl, trivial⟩ (fun J => ?_)
 refine c_if (decide (k_s0_l1 > 0)) rfl h (fun h => ?_) (fun h => ?_)
 · refine c_skip ?_
   refine k_then ?_
   refine c_seq ?_
   refine c_block ?_
   refine c_plain ?_
   refine x_u 3 [(8, Vi n_s3_l1), (9, Vi (IntKind.i64.wrap (n_s3_l1 + 1))), (3, Vi (IntKind.i64.wrap (n_s3_l1 + 1)))] ?_
   refine x_end rfl ?_
   refine k_block ?_
   refine k_then ?_
   refine c_plain ?_
   refine x_u 3 [(6, Vi k_s0_l1), (7, Vi (IntKind.i64.wrap (Int.tdiv k_s0_l1 2))), (0, Vi (IntKind.i64.wrap (Int.tdiv k_s0_l1 2)))] ?_
   refine x_end rfl ?_
   have hx := some_inj h
   subst hx
   exact k_then ⟨(m1, IntKind.i64.wrap (Int.tdiv k_s0_l1 2), IntKind.i64.wrap (n_s3_l1 + 1)), ⟨rfl, rfl, trivial⟩, ⟨hn1, hev, hms, hfr⟩, Nat.lt_succ_self _⟩
 refine c_exit ?_
 refine k_then_exit ?_
 have hx := some_inj h
 subst hx
 have hy := some_inj hn1
 subst hy
 replace h := h1
 refine k_then_exit ?_
 refine k_block_in ?_
 refine k_then ?_
 refine c_norm [(3, Vi n_s3_l1)] ⟨rfl, trivial⟩ (fun J => ?_)
 refine c_sp ?_
 refine x_u 2 [(10, Vi n_s3_l1), (2, Vi n_s3_l1)] ?_
 refine x_ek ?_
 refine c_ret ?_
 refine r_ret (r_vals [Vi n_s3_l1] ⟨rfl, trivial⟩ ?_)
 have hx := some_inj h
 subst hx
 exact ⟨rfl, hev⟩
end Go.Proofs.Ytcignnfdpgeogaa
