/- Walks, printed by program: each function returns what the partial function of the same name returns. Conditions: those of each theorem. -/
import Derived.Test.YtjcikgeffhghkaaGT
set_option linter.unusedVariables false
set_option maxRecDepth 4000
namespace Go.Proofs.Ytjcikgeffhghkaa
open Go Go.V Go.Proofs
def r12_form (round_0 : Int) (weight_1 : Int) : Option Bool :=
(if (decide (round_0 ≥ 0)) = true then
(if (decide (round_0 < 13)) = true then
(if (decide (weight_1 ≥ 0)) = true then
some (decide (weight_1 ≤ 12))
else
some false)
else
some false)
else
some false)

theorem r12_form_w (round_0 : Int) (weight_1 : Int) (r : Bool) (w : World) (h : r12_form round_0 weight_1 = some r) : CallVC Try.prog 36 [.int .i64 round_0, .int .i64 weight_1] w fun v w' => v = .bool r ∧ Ev [] w w' := by
  refine calls_vc hmx Try.func36 (by kernel_rfl) rfl (rs := [.tmp 4]) rfl (by kernel_rfl) (args := [.int .i64 round_0, .int .i64 weight_1]) rfl ?_
  have hev : Ev [] w w := Ev.refl _ _
  have hms : MS w [[]] := ⟨List.pairwise_singleton _ _, fun l hl b hb => by simp only [List.mem_singleton] at hl; subst hl; cases hb⟩
  have hfr : FR w.heap.size [] := FR.nil _
  refine c_seq ?_
  refine c_plain ?_
  refine x_pure 1 [(4, .bool false)] _ _ _ (by kernel_rfl) ?_
  refine x_end rfl ?_
  refine k_then ?_
  refine c_norm [(0, .int .i64 round_0), (1, .int .i64 weight_1)] ⟨rfl, rfl, trivial⟩ (fun J => ?_)
  refine c_seq ?_
  refine c_plain ?_
  refine x_pure 3 [(5, .int .i64 round_0), (6, .bool (decide (round_0 ≥ 0))), (7, .bool (decide (round_0 ≥ 0)))] _ _ _ (by kernel_rfl) ?_
  refine x_split 7 (decide (round_0 ≥ 0)) rfl (fun hb => ?_) (fun hb => ?_)
  · replace h := ite_t hb h
    refine x_pure 4 [(8, .int .i64 round_0), (9, .bool (decide (round_0 < 13))), (10, .bool (decide (round_0 < 13))), (11, .bool (decide (round_0 < 13)))] _ _ _ (by kernel_rfl) ?_
    refine x_split 11 (decide (round_0 < 13)) rfl (fun hb => ?_) (fun hb => ?_)
    · replace h := ite_t hb h
      refine x_pure 4 [(12, .int .i64 weight_1), (13, .bool (decide (weight_1 ≥ 0))), (14, .bool (decide (weight_1 ≥ 0))), (15, .bool (decide (weight_1 ≥ 0)))] _ _ _ (by kernel_rfl) ?_
      refine x_split 15 (decide (weight_1 ≥ 0)) rfl (fun hb => ?_) (fun hb => ?_)
      · replace h := ite_t hb h
        refine x_pure 4 [(16, .int .i64 weight_1), (17, .bool (decide (weight_1 ≤ 12))), (18, .bool (decide (weight_1 ≤ 12))), (4, .bool (decide (weight_1 ≤ 12)))] _ _ _ (by kernel_rfl) ?_
        refine x_end rfl ?_
        refine k_then ?_
        refine c_norm [(4, .bool (decide (weight_1 ≤ 12)))] ⟨rfl, trivial⟩ (fun J => ?_)
        refine c_ret ?_
        refine r_ret (r_one (.bool (decide (weight_1 ≤ 12))) rfl ?_)
        have hx := some_inj h
        subst hx
        exact ⟨rfl, hev⟩
      · replace h := ite_f hb h
        refine x_pure 4 [(16, undef), (17, undef), (18, .bool false), (4, .bool false)] _ _ _ (by kernel_rfl) ?_
        refine x_end rfl ?_
        refine k_then ?_
        refine c_norm [(4, .bool false)] ⟨rfl, trivial⟩ (fun J => ?_)
        refine c_ret ?_
        refine r_ret (r_one (.bool false) rfl ?_)
        have hx := some_inj h
        subst hx
        exact ⟨rfl, hev⟩
    · replace h := ite_f hb h
      refine x_pure 8 [(12, undef), (13, undef), (14, .bool false), (15, .bool false), (16, undef), (17, undef), (18, .bool false), (4, .bool false)] _ _ _ (by kernel_rfl) ?_
      refine x_end rfl ?_
      refine k_then ?_
      refine c_norm [(4, .bool false)] ⟨rfl, trivial⟩ (fun J => ?_)
      refine c_ret ?_
      refine r_ret (r_one (.bool false) rfl ?_)
      have hx := some_inj h
      subst hx
      exact ⟨rfl, hev⟩
  · replace h := ite_f hb h
    refine x_pure 12 [(8, undef), (9, undef), (10, .bool false), (11, .bool false), (12, undef), (13, undef), (14, .bool false), (15, .bool false), (16, undef), (17, undef), (18, .bool false), (4, .bool false)] _ _ _ (by kernel_rfl) ?_
    refine x_end rfl ?_
    refine k_then ?_
    refine c_norm [(4, .bool false)] ⟨rfl, trivial⟩ (fun J => ?_)
    refine c_ret ?_
    refine r_ret (r_one (.bool false) rfl ?_)
    have hx := some_inj h
    subst hx
    exact ⟨rfl, hev⟩
def r12_Is_L3 (s : Int × Int) : Option (Step (Int × Int) Int) :=
match s with
| (n_s7, x_s8) =>
(if (decide (x_s8 > 0)) = true then
some (.next (IntKind.i64.wrap (n_s7 + (Int.tmod x_s8 2)), IntKind.i64.wrap (Int.tdiv x_s8 2)))
else
some (.done n_s7))

def r12_Is (k_0 : Int) (round_1 : Int) (weight_2 : Int) : Option Bool :=
((r12_form round_1 weight_2).bind fun x1 =>
(if (!x1) = true then
some false
else
(if (decide (k_0 < 0)) = true then
some false
else
(if (decide (k_0 ≥ 4096)) = true then
some false
else
(if 0 ≤ round_1 then
(if IntKind.i64.wrap (1 * 2 ^ (min (Int.toNat (round_1)) IntKind.i64.bits)) ≠ 0 then
(if 0 ≤ round_1 then
(if ((Int.tmod k_0 (IntKind.i64.wrap (1 * 2 ^ (min (Int.toNat (round_1)) IntKind.i64.bits)))) != (IntKind.i64.wrap ((IntKind.i64.wrap (1 * 2 ^ (min (Int.toNat (round_1)) IntKind.i64.bits))) - 1))) = true then
some false
else
(if 0 ≤ round_1 then
((loop r12_Is_L3 (0, Int.fdiv k_0 (2 ^ (min (Int.toNat (round_1)) IntKind.i64.bits)))).bind fun d => match d with
| n_x7 => some (decide (n_x7 ≤ weight_2)))
else none))
else none)
else none)
else none)))))

theorem r12_Is_w (k_0 : Int) (round_1 : Int) (weight_2 : Int) (r : Bool) (w : World) (h : r12_Is k_0 round_1 weight_2 = some r) : CallVC Try.prog 28 [.int .i64 k_0, .int .i64 round_1, .int .i64 weight_2] w fun v w' => v = .bool r ∧ Ev [] w w' := by
  refine calls_vc hmx Try.func28 (by kernel_rfl) rfl (rs := [.tmp 6]) rfl (by kernel_rfl) (args := [.int .i64 k_0, .int .i64 round_1, .int .i64 weight_2]) rfl ?_
  have hev : Ev [] w w := Ev.refl _ _
  have hms : MS w [[]] := ⟨List.pairwise_singleton _ _, fun l hl b hb => by simp only [List.mem_singleton] at hl; subst hl; cases hb⟩
  have hfr : FR w.heap.size [] := FR.nil _
  refine c_seq ?_
  refine c_plain ?_
  refine x_pure 1 [(6, .bool false)] _ _ _ (by kernel_rfl) ?_
  refine x_end rfl ?_
  refine k_then ?_
  refine c_norm [(0, .int .i64 k_0), (1, .int .i64 round_1), (2, .int .i64 weight_2)] ⟨rfl, rfl, rfl, trivial⟩ (fun J => ?_)
  refine c_seq ?_
  refine c_seq ?_
  refine c_drawn [] [(0, false), (1, false), (2, false), (3, false), (4, false), (5, false), (6, false), (7, false), (8, false), (9, false), (10, false), (11, false), (12, false), (13, false), (14, false), (15, false), (16, false), (17, false), (18, false), (19, false), (20, false), (21, false)] _ (by kernel_rfl) rfl ?_
  replace hms := hms.ev (Ev.drew w)
  replace hev := hev.ext (Ev.drew w)
  refine x_pure 2 [(9, .int .i64 round_1), (10, .int .i64 weight_2)] _ _ _ (by kernel_rfl) ?_
  obtain ⟨x1, hx, h⟩ := bind_some h
  have hcall := r12_form_w round_1 weight_2 _ (w).drew hx
  refine x_call 36 #[] #[] [.int .i64 round_1, .int .i64 weight_2] _ rfl rfl rfl rfl hcall ?_
  rintro v w2 ⟨rfl, he2⟩
  clear hcall hx
  refine ⟨.inr he2, ?_⟩
  replace hms := hms.ev he2
  replace hev := hev.ext he2
  refine x_pure 2 [(12, .bool (!x1)), (13, .bool (!x1))] _ _ _ (by kernel_rfl) ?_
  refine x_split 13 (!x1) rfl (fun hb => ?_) (fun hb => ?_)
  · replace h := ite_t hb h
    refine x_pure 17 [(14, undef), (15, undef), (16, .bool true), (17, .bool true), (18, undef), (19, undef), (20, .bool true), (21, .bool true), (22, undef), (23, undef), (24, undef), (25, undef), (26, undef), (27, undef), (28, undef), (29, undef), (30, .bool true)] _ _ _ (by kernel_rfl) ?_
    refine x_end rfl ?_
    refine k_then ?_
    refine c_norm [(0, .int .i64 k_0), (1, .int .i64 round_1), (2, .int .i64 weight_2), (30, .bool true)] ⟨rfl, rfl, rfl, rfl, trivial⟩ (fun J => ?_)
    refine c_true rfl ?_
    refine c_seq ?_
    refine c_plain ?_
    refine x_pure 1 [(6, .bool false)] _ _ _ (by kernel_rfl) ?_
    refine x_end rfl ?_
    refine k_then ?_
    refine c_norm [(6, .bool false)] ⟨rfl, trivial⟩ (fun J => ?_)
    refine c_ret ?_
    refine k_then_ret ?_
    refine r_ret (r_one (.bool false) rfl ?_)
    have hx := some_inj h
    subst hx
    exact ⟨rfl, hev⟩
  · replace h := ite_f hb h
    refine x_pure 4 [(14, .int .i64 k_0), (15, .bool (decide (k_0 < 0))), (16, .bool (decide (k_0 < 0))), (17, .bool (decide (k_0 < 0)))] _ _ _ (by kernel_rfl) ?_
    refine x_split 17 (decide (k_0 < 0)) rfl (fun hb => ?_) (fun hb => ?_)
    · replace h := ite_t hb h
      refine x_pure 13 [(18, undef), (19, undef), (20, .bool true), (21, .bool true), (22, undef), (23, undef), (24, undef), (25, undef), (26, undef), (27, undef), (28, undef), (29, undef), (30, .bool true)] _ _ _ (by kernel_rfl) ?_
      refine x_end rfl ?_
      refine k_then ?_
      refine c_norm [(0, .int .i64 k_0), (1, .int .i64 round_1), (2, .int .i64 weight_2), (30, .bool true)] ⟨rfl, rfl, rfl, rfl, trivial⟩ (fun J => ?_)
      refine c_true rfl ?_
      refine c_seq ?_
      refine c_plain ?_
      refine x_pure 1 [(6, .bool false)] _ _ _ (by kernel_rfl) ?_
      refine x_end rfl ?_
      refine k_then ?_
      refine c_norm [(6, .bool false)] ⟨rfl, trivial⟩ (fun J => ?_)
      refine c_ret ?_
      refine k_then_ret ?_
      refine r_ret (r_one (.bool false) rfl ?_)
      have hx := some_inj h
      subst hx
      exact ⟨rfl, hev⟩
    · replace h := ite_f hb h
      refine x_pure 4 [(18, .int .i64 k_0), (19, .bool (decide (k_0 ≥ 4096))), (20, .bool (decide (k_0 ≥ 4096))), (21, .bool (decide (k_0 ≥ 4096)))] _ _ _ (by kernel_rfl) ?_
      refine x_split 21 (decide (k_0 ≥ 4096)) rfl (fun hb => ?_) (fun hb => ?_)
      · replace h := ite_t hb h
        refine x_pure 9 [(22, undef), (23, undef), (24, undef), (25, undef), (26, undef), (27, undef), (28, undef), (29, undef), (30, .bool true)] _ _ _ (by kernel_rfl) ?_
        refine x_end rfl ?_
        refine k_then ?_
        refine c_norm [(0, .int .i64 k_0), (1, .int .i64 round_1), (2, .int .i64 weight_2), (30, .bool true)] ⟨rfl, rfl, rfl, rfl, trivial⟩ (fun J => ?_)
        refine c_true rfl ?_
        refine c_seq ?_
        refine c_plain ?_
        refine x_pure 1 [(6, .bool false)] _ _ _ (by kernel_rfl) ?_
        refine x_end rfl ?_
        refine k_then ?_
        refine c_norm [(6, .bool false)] ⟨rfl, trivial⟩ (fun J => ?_)
        refine c_ret ?_
        refine k_then_ret ?_
        refine r_ret (r_one (.bool false) rfl ?_)
        have hx := some_inj h
        subst hx
        exact ⟨rfl, hev⟩
      · replace h := ite_f hb h
        refine x_pure 2 [(22, .int .i64 k_0), (23, .int .i64 round_1)] _ _ _ (by kernel_rfl) ?_
        refine x_binop (.int .i64 (IntKind.i64.wrap (1 * 2 ^ (min (Int.toNat (round_1)) IntKind.i64.bits)))) (.int .i64 1) (.int .i64 round_1) rfl rfl rfl rfl (vb_shl (guard_l h)) ?_
        replace h := guard_r h
        refine x_binop (.int .i64 (Int.tmod k_0 (IntKind.i64.wrap (1 * 2 ^ (min (Int.toNat (round_1)) IntKind.i64.bits))))) (.int .i64 k_0) (.int .i64 (IntKind.i64.wrap (1 * 2 ^ (min (Int.toNat (round_1)) IntKind.i64.bits)))) rfl rfl rfl rfl (vb_rem (guard_l h)) ?_
        replace h := guard_r h
        refine x_pure 1 [(26, .int .i64 round_1)] _ _ _ (by kernel_rfl) ?_
        refine x_binop (.int .i64 (IntKind.i64.wrap (1 * 2 ^ (min (Int.toNat (round_1)) IntKind.i64.bits)))) (.int .i64 1) (.int .i64 round_1) rfl rfl rfl rfl (vb_shl (guard_l h)) ?_
        replace h := guard_r h
        refine x_pure 3 [(28, .int .i64 (IntKind.i64.wrap ((IntKind.i64.wrap (1 * 2 ^ (min (Int.toNat (round_1)) IntKind.i64.bits))) - 1))), (29, .bool ((Int.tmod k_0 (IntKind.i64.wrap (1 * 2 ^ (min (Int.toNat (round_1)) IntKind.i64.bits)))) != (IntKind.i64.wrap ((IntKind.i64.wrap (1 * 2 ^ (min (Int.toNat (round_1)) IntKind.i64.bits))) - 1)))), (30, .bool ((Int.tmod k_0 (IntKind.i64.wrap (1 * 2 ^ (min (Int.toNat (round_1)) IntKind.i64.bits)))) != (IntKind.i64.wrap ((IntKind.i64.wrap (1 * 2 ^ (min (Int.toNat (round_1)) IntKind.i64.bits))) - 1))))] _ _ _ (by kernel_rfl) ?_
        refine x_end rfl ?_
        refine k_then ?_
        refine c_norm [(0, .int .i64 k_0), (1, .int .i64 round_1), (2, .int .i64 weight_2), (30, .bool ((Int.tmod k_0 (IntKind.i64.wrap (1 * 2 ^ (min (Int.toNat (round_1)) IntKind.i64.bits)))) != (IntKind.i64.wrap ((IntKind.i64.wrap (1 * 2 ^ (min (Int.toNat (round_1)) IntKind.i64.bits))) - 1))))] ⟨rfl, rfl, rfl, rfl, trivial⟩ (fun J => ?_)
        refine c_cond ((Int.tmod k_0 (IntKind.i64.wrap (1 * 2 ^ (min (Int.toNat (round_1)) IntKind.i64.bits)))) != (IntKind.i64.wrap ((IntKind.i64.wrap (1 * 2 ^ (min (Int.toNat (round_1)) IntKind.i64.bits))) - 1))) rfl (fun hb => ?_) (fun hb => ?_)
        · replace h := ite_t hb h
          refine c_seq ?_
          refine c_plain ?_
          refine x_pure 1 [(6, .bool false)] _ _ _ (by kernel_rfl) ?_
          refine x_end rfl ?_
          refine k_then ?_
          refine c_norm [(6, .bool false)] ⟨rfl, trivial⟩ (fun J => ?_)
          refine c_ret ?_
          refine k_then_ret ?_
          refine r_ret (r_one (.bool false) rfl ?_)
          have hx := some_inj h
          subst hx
          exact ⟨rfl, hev⟩
        · replace h := ite_f hb h
          refine c_skip ?_
          refine k_then ?_
          refine c_norm [(0, .int .i64 k_0), (1, .int .i64 round_1), (2, .int .i64 weight_2)] ⟨rfl, rfl, rfl, trivial⟩ (fun J => ?_)
          refine c_seq ?_
          refine c_plain ?_
          refine x_pure 1 [(7, .int .i64 0)] _ _ _ (by kernel_rfl) ?_
          refine x_end rfl ?_
          refine k_then ?_
          refine c_norm [(0, .int .i64 k_0), (1, .int .i64 round_1), (2, .int .i64 weight_2), (7, .int .i64 0)] ⟨rfl, rfl, rfl, rfl, trivial⟩ (fun J => ?_)
          refine c_seq ?_
          refine c_seq ?_
          refine c_plain ?_
          refine x_pure 2 [(31, .int .i64 k_0), (32, .int .i64 round_1)] _ _ _ (by kernel_rfl) ?_
          refine x_binop (.int .i64 (Int.fdiv k_0 (2 ^ (min (Int.toNat (round_1)) IntKind.i64.bits)))) (.int .i64 k_0) (.int .i64 round_1) rfl rfl rfl rfl (vb_shr (guard_l h)) ?_
          replace h := guard_r h
          refine x_pure 1 [(8, .int .i64 (Int.fdiv k_0 (2 ^ (min (Int.toNat (round_1)) IntKind.i64.bits))))] _ _ _ (by kernel_rfl) ?_
          refine x_end rfl ?_
          refine k_then ?_
          refine c_norm [(2, .int .i64 weight_2), (7, .int .i64 0), (8, .int .i64 (Int.fdiv k_0 (2 ^ (min (Int.toNat (round_1)) IntKind.i64.bits))))] ⟨rfl, rfl, rfl, trivial⟩ (fun J => ?_)
          refine c_block ?_
          obtain ⟨d3, hd3, h3⟩ := bind_some h
          obtain ⟨m3, hd3⟩ := loop_some hd3
          refine c_loop (loop_rule hmx (σ := Nat × Int × Int) (fun s => match s with | (_, n_s7, x_s8) => [(2, .int .i64 weight_2), (7, .int .i64 n_s7), (8, .int .i64 x_s8)]) (fun s w' => match s with | (m, n_s7, x_s8) => loopN r12_Is_L3 m (n_s7, x_s8) = some d3 ∧ Ev [] w w' ∧ MS w' [[]] ∧ FR w.heap.size []) (fun s => s.1) (m3, 0, Int.fdiv k_0 (2 ^ (min (Int.toNat (round_1)) IntKind.i64.bits))) ⟨rfl, rfl, rfl, trivial⟩ ⟨hd3, hev, hms, hfr⟩ ?_)
          rintro ⟨m3, n_s7, x_s8⟩ J w3 ⟨hn3, hev, hms, hfr⟩
          rcases m3 with _ | m3
          · exact (loopN_zero hn3).elim
          obtain ⟨t3, h, hn3⟩ := bind_some hn3
          refine c_seq ?_
          refine c_seq ?_
          refine c_plain ?_
          refine x_pure 2 [(34, .int .i64 x_s8), (35, .bool (decide (x_s8 > 0)))] _ _ _ (by kernel_rfl) ?_
          refine x_end rfl ?_
          refine k_then ?_
          refine c_norm [(2, .int .i64 weight_2), (7, .int .i64 n_s7), (8, .int .i64 x_s8), (35, .bool (decide (x_s8 > 0)))] ⟨rfl, rfl, rfl, rfl, trivial⟩ (fun J => ?_)
          refine c_cond (decide (x_s8 > 0)) rfl (fun hb => ?_) (fun hb => ?_)
          · replace h := ite_t hb h
            refine c_skip ?_
            refine k_then ?_
            refine c_norm [(2, .int .i64 weight_2), (7, .int .i64 n_s7), (8, .int .i64 x_s8)] ⟨rfl, rfl, rfl, trivial⟩ (fun J => ?_)
            refine c_seq ?_
            refine c_block ?_
            refine c_plain ?_
            refine x_pure 5 [(38, .int .i64 n_s7), (39, .int .i64 x_s8), (40, .int .i64 (Int.tmod x_s8 2)), (41, .int .i64 (IntKind.i64.wrap (n_s7 + (Int.tmod x_s8 2)))), (7, .int .i64 (IntKind.i64.wrap (n_s7 + (Int.tmod x_s8 2))))] _ _ _ (by kernel_rfl) ?_
            refine x_end rfl ?_
            refine k_block ?_
            refine k_then ?_
            refine c_norm [(2, .int .i64 weight_2), (7, .int .i64 (IntKind.i64.wrap (n_s7 + (Int.tmod x_s8 2)))), (8, .int .i64 x_s8)] ⟨rfl, rfl, rfl, trivial⟩ (fun J => ?_)
            refine c_plain ?_
            refine x_pure 3 [(36, .int .i64 x_s8), (37, .int .i64 (IntKind.i64.wrap (Int.tdiv x_s8 2))), (8, .int .i64 (IntKind.i64.wrap (Int.tdiv x_s8 2)))] _ _ _ (by kernel_rfl) ?_
            refine x_end rfl ?_
            have hx := some_inj h
            subst hx
            exact k_then ⟨(m3, IntKind.i64.wrap (n_s7 + (Int.tmod x_s8 2)), IntKind.i64.wrap (Int.tdiv x_s8 2)), ⟨rfl, rfl, rfl, trivial⟩, ⟨hn3, hev, hms, hfr⟩, Nat.lt_succ_self _⟩
          · replace h := ite_f hb h
            refine c_exit ?_
            refine k_then_exit ?_
            have hx := some_inj h
            subst hx
            have hy := some_inj hn3
            subst hy
            replace h := h3
            refine k_then_exit ?_
            refine k_block_in ?_
            refine k_then ?_
            refine c_norm [(2, .int .i64 weight_2), (7, .int .i64 n_s7)] ⟨rfl, rfl, trivial⟩ (fun J => ?_)
            refine c_seq ?_
            refine c_plain ?_
            refine x_pure 4 [(42, .int .i64 n_s7), (43, .int .i64 weight_2), (44, .bool (decide (n_s7 ≤ weight_2))), (6, .bool (decide (n_s7 ≤ weight_2)))] _ _ _ (by kernel_rfl) ?_
            refine x_end rfl ?_
            refine k_then ?_
            refine c_norm [(6, .bool (decide (n_s7 ≤ weight_2)))] ⟨rfl, trivial⟩ (fun J => ?_)
            refine c_ret ?_
            refine r_ret (r_one (.bool (decide (n_s7 ≤ weight_2))) rfl ?_)
            have hx := some_inj h
            subst hx
            exact ⟨rfl, hev⟩
def r12_Next_L3 (round_1 : Int) (weight_2 : Int) (s : Int) : Option (Step Int ((Int × Int) ⊕ Unit)) :=
match s with
| k_s8 =>
(if (decide (k_s8 < 4096)) = true then
((r12_Is k_s8 round_1 weight_2).bind fun x4 =>
(if x4 = true then
some (.done (.inl (k_s8, 0)))
else
some (.next (IntKind.i64.wrap (k_s8 + 1)))))
else
some (.done (.inr ())))

def r12_Next (least_0 : Int) (round_1 : Int) (weight_2 : Int) : Option (Int × Int) :=
((r12_form round_1 weight_2).bind fun x1 =>
(if (!x1) = true then
some (0, 2)
else
(if (decide (least_0 < 0)) = true then
some (0, 2)
else
((loop (r12_Next_L3 round_1 weight_2) least_0).bind fun d => match d with
| (.inl (t6__x6, t7__x7)) => some (t6__x6, t7__x7)
| (.inr _) => some (0, 15)))))

theorem r12_Next_w (least_0 : Int) (round_1 : Int) (weight_2 : Int) (r : Int × Int) (w : World) (h : r12_Next least_0 round_1 weight_2 = some r) : CallVC Try.prog 27 [.int .i64 least_0, .int .i64 round_1, .int .i64 weight_2] w fun v w' => v = .tuple #[.int .i64 r.1, .int .i64 r.2] ∧ Ev [] w w' := by
  refine calls_vc hmx Try.func27 (by kernel_rfl) rfl (rs := [.tmp 6, .tmp 7]) rfl (by kernel_rfl) (args := [.int .i64 least_0, .int .i64 round_1, .int .i64 weight_2]) rfl ?_
  have hev : Ev [] w w := Ev.refl _ _
  have hms : MS w [[]] := ⟨List.pairwise_singleton _ _, fun l hl b hb => by simp only [List.mem_singleton] at hl; subst hl; cases hb⟩
  have hfr : FR w.heap.size [] := FR.nil _
  refine c_seq ?_
  refine c_plain ?_
  refine x_pure 2 [(6, .int .i64 0), (7, .int .i64 0)] _ _ _ (by kernel_rfl) ?_
  refine x_end rfl ?_
  refine k_then ?_
  refine c_norm [(0, .int .i64 least_0), (1, .int .i64 round_1), (2, .int .i64 weight_2)] ⟨rfl, rfl, rfl, trivial⟩ (fun J => ?_)
  refine c_seq ?_
  refine c_seq ?_
  refine c_plain ?_
  refine x_pure 2 [(9, .int .i64 round_1), (10, .int .i64 weight_2)] _ _ _ (by kernel_rfl) ?_
  obtain ⟨x1, hx, h⟩ := bind_some h
  have hcall := r12_form_w round_1 weight_2 _ w hx
  refine x_call 36 #[] #[] [.int .i64 round_1, .int .i64 weight_2] _ rfl rfl rfl rfl hcall ?_
  rintro v w2 ⟨rfl, he2⟩
  clear hcall hx
  refine ⟨.inl rfl, ?_⟩
  replace hms := hms.ev he2
  replace hev := hev.ext he2
  refine x_pure 2 [(12, .bool (!x1)), (13, .bool (!x1))] _ _ _ (by kernel_rfl) ?_
  refine x_split 13 (!x1) rfl (fun hb => ?_) (fun hb => ?_)
  · replace h := ite_t hb h
    refine x_pure 3 [(14, undef), (15, undef), (16, .bool true)] _ _ _ (by kernel_rfl) ?_
    refine x_end rfl ?_
    refine k_then ?_
    refine c_norm [(0, .int .i64 least_0), (1, .int .i64 round_1), (2, .int .i64 weight_2), (16, .bool true)] ⟨rfl, rfl, rfl, rfl, trivial⟩ (fun J => ?_)
    refine c_true rfl ?_
    refine c_seq ?_
    refine c_plain ?_
    refine x_pure 2 [(6, .int .i64 0), (7, .int .i64 2)] _ _ _ (by kernel_rfl) ?_
    refine x_end rfl ?_
    refine k_then ?_
    refine c_norm [(6, .int .i64 0), (7, .int .i64 2)] ⟨rfl, rfl, trivial⟩ (fun J => ?_)
    refine c_ret ?_
    refine k_then_ret ?_
    refine r_ret (r_two (.int .i64 0) (.int .i64 2) rfl rfl ?_)
    have hx := some_inj h
    subst hx
    exact ⟨rfl, hev⟩
  · replace h := ite_f hb h
    refine x_pure 3 [(14, .int .i64 least_0), (15, .bool (decide (least_0 < 0))), (16, .bool (decide (least_0 < 0)))] _ _ _ (by kernel_rfl) ?_
    refine x_end rfl ?_
    refine k_then ?_
    refine c_norm [(0, .int .i64 least_0), (1, .int .i64 round_1), (2, .int .i64 weight_2), (16, .bool (decide (least_0 < 0)))] ⟨rfl, rfl, rfl, rfl, trivial⟩ (fun J => ?_)
    refine c_cond (decide (least_0 < 0)) rfl (fun hb => ?_) (fun hb => ?_)
    · replace h := ite_t hb h
      refine c_seq ?_
      refine c_plain ?_
      refine x_pure 2 [(6, .int .i64 0), (7, .int .i64 2)] _ _ _ (by kernel_rfl) ?_
      refine x_end rfl ?_
      refine k_then ?_
      refine c_norm [(6, .int .i64 0), (7, .int .i64 2)] ⟨rfl, rfl, trivial⟩ (fun J => ?_)
      refine c_ret ?_
      refine k_then_ret ?_
      refine r_ret (r_two (.int .i64 0) (.int .i64 2) rfl rfl ?_)
      have hx := some_inj h
      subst hx
      exact ⟨rfl, hev⟩
    · replace h := ite_f hb h
      refine c_skip ?_
      refine k_then ?_
      refine c_norm [(0, .int .i64 least_0), (1, .int .i64 round_1), (2, .int .i64 weight_2)] ⟨rfl, rfl, rfl, trivial⟩ (fun J => ?_)
      refine c_seq ?_
      refine c_seq ?_
      refine c_plain ?_
      refine x_pure 2 [(17, .int .i64 least_0), (8, .int .i64 least_0)] _ _ _ (by kernel_rfl) ?_
      refine x_end rfl ?_
      refine k_then ?_
      refine c_norm [(1, .int .i64 round_1), (2, .int .i64 weight_2), (8, .int .i64 least_0)] ⟨rfl, rfl, rfl, trivial⟩ (fun J => ?_)
      refine c_block ?_
      obtain ⟨d3, hd3, h3⟩ := bind_some h
      obtain ⟨m3, hd3⟩ := loop_some hd3
      refine c_loop (loop_rule hmx (σ := Nat × Int) (fun s => match s with | (_, k_s8) => [(1, .int .i64 round_1), (2, .int .i64 weight_2), (8, .int .i64 k_s8)]) (fun s w' => match s with | (m, k_s8) => loopN (r12_Next_L3 round_1 weight_2) m k_s8 = some d3 ∧ Ev [] w w' ∧ MS w' [[]] ∧ FR w.heap.size []) (fun s => s.1) (m3, least_0) ⟨rfl, rfl, rfl, trivial⟩ ⟨hd3, hev, hms, hfr⟩ ?_)
      rintro ⟨m3, k_s8⟩ J w3 ⟨hn3, hev, hms, hfr⟩
      rcases m3 with _ | m3
      · exact (loopN_zero hn3).elim
      obtain ⟨t3, h, hn3⟩ := bind_some hn3
      refine c_seq ?_
      refine c_seq ?_
      refine c_plain ?_
      refine x_pure 2 [(18, .int .i64 k_s8), (19, .bool (decide (k_s8 < 4096)))] _ _ _ (by kernel_rfl) ?_
      refine x_end rfl ?_
      refine k_then ?_
      refine c_norm [(1, .int .i64 round_1), (2, .int .i64 weight_2), (8, .int .i64 k_s8), (19, .bool (decide (k_s8 < 4096)))] ⟨rfl, rfl, rfl, rfl, trivial⟩ (fun J => ?_)
      refine c_cond (decide (k_s8 < 4096)) rfl (fun hb => ?_) (fun hb => ?_)
      · replace h := ite_t hb h
        refine c_skip ?_
        refine k_then ?_
        refine c_norm [(1, .int .i64 round_1), (2, .int .i64 weight_2), (8, .int .i64 k_s8)] ⟨rfl, rfl, rfl, trivial⟩ (fun J => ?_)
        refine c_seq ?_
        refine c_block ?_
        refine c_seq ?_
        refine c_plain ?_
        refine x_pure 3 [(22, .int .i64 k_s8), (23, .int .i64 round_1), (24, .int .i64 weight_2)] _ _ _ (by kernel_rfl) ?_
        obtain ⟨x4, hx, h⟩ := bind_some h
        have hcall := r12_Is_w k_s8 round_1 weight_2 _ w3 hx
        refine x_call 28 #[] #[] [.int .i64 k_s8, .int .i64 round_1, .int .i64 weight_2] _ rfl rfl rfl rfl hcall ?_
        rintro v w5 ⟨rfl, he5⟩
        clear hcall hx
        refine ⟨.inl rfl, ?_⟩
        replace hms := hms.ev he5
        replace hev := hev.ext he5
        refine x_end rfl ?_
        refine k_then ?_
        refine c_norm [(1, .int .i64 round_1), (2, .int .i64 weight_2), (8, .int .i64 k_s8), (25, .bool x4)] ⟨rfl, rfl, rfl, rfl, trivial⟩ (fun J => ?_)
        refine c_cond x4 rfl (fun hb => ?_) (fun hb => ?_)
        · replace h := ite_t hb h
          refine c_seq ?_
          refine c_plain ?_
          refine x_pure 3 [(26, .int .i64 k_s8), (6, .int .i64 k_s8), (7, .int .i64 0)] _ _ _ (by kernel_rfl) ?_
          refine x_end rfl ?_
          refine k_then ?_
          refine c_norm [(6, .int .i64 k_s8), (7, .int .i64 0)] ⟨rfl, rfl, trivial⟩ (fun J => ?_)
          refine c_ret ?_
          refine k_block_ret ?_
          refine k_then_ret ?_
          have hx := some_inj h
          subst hx
          have hy := some_inj hn3
          subst hy
          replace h := h3
          refine k_then_ret ?_
          refine k_block_ret ?_
          refine k_then_ret ?_
          refine r_ret (r_two (.int .i64 k_s8) (.int .i64 0) rfl rfl ?_)
          have hx := some_inj h
          subst hx
          exact ⟨rfl, hev⟩
        · replace h := ite_f hb h
          refine c_skip ?_
          refine k_block ?_
          refine k_then ?_
          refine c_norm [(1, .int .i64 round_1), (2, .int .i64 weight_2), (8, .int .i64 k_s8)] ⟨rfl, rfl, rfl, trivial⟩ (fun J => ?_)
          refine c_plain ?_
          refine x_pure 3 [(20, .int .i64 k_s8), (21, .int .i64 (IntKind.i64.wrap (k_s8 + 1))), (8, .int .i64 (IntKind.i64.wrap (k_s8 + 1)))] _ _ _ (by kernel_rfl) ?_
          refine x_end rfl ?_
          have hx := some_inj h
          subst hx
          exact k_then ⟨(m3, IntKind.i64.wrap (k_s8 + 1)), ⟨rfl, rfl, rfl, trivial⟩, ⟨hn3, hev, hms, hfr⟩, Nat.lt_succ_self _⟩
      · replace h := ite_f hb h
        refine c_exit ?_
        refine k_then_exit ?_
        have hx := some_inj h
        subst hx
        have hy := some_inj hn3
        subst hy
        replace h := h3
        refine k_then_exit ?_
        refine k_block_in ?_
        refine k_then ?_
        refine c_norm [] trivial (fun J => ?_)
        refine c_seq ?_
        refine c_plain ?_
        refine x_pure 2 [(6, .int .i64 0), (7, .int .i64 15)] _ _ _ (by kernel_rfl) ?_
        refine x_end rfl ?_
        refine k_then ?_
        refine c_norm [(6, .int .i64 0), (7, .int .i64 15)] ⟨rfl, rfl, trivial⟩ (fun J => ?_)
        refine c_ret ?_
        refine r_ret (r_two (.int .i64 0) (.int .i64 15) rfl rfl ?_)
        have hx := some_inj h
        subst hx
        exact ⟨rfl, hev⟩
def r12_Count_L3 (steps_0 : Int) (round_1 : Int) (weight_2 : Int) (s : Int × Int) : Option (Step (Int × Int) Int) :=
match s with
| (n_s8, k_s9) =>
(if 0 ≤ steps_0 then
(if (decide (k_s9 < (IntKind.i64.wrap (1 * 2 ^ (min (Int.toNat (steps_0)) IntKind.i64.bits))))) = true then
((r12_Is k_s9 round_1 weight_2).bind fun x4 =>
(if x4 = true then
some (.next (IntKind.i64.wrap (n_s8 + 1), IntKind.i64.wrap (k_s9 + 1)))
else
some (.next (n_s8, IntKind.i64.wrap (k_s9 + 1)))))
else
some (.done n_s8))
else none)

def r12_Count (steps_0 : Int) (round_1 : Int) (weight_2 : Int) : Option (Int × Int) :=
((r12_form round_1 weight_2).bind fun x1 =>
(if (!x1) = true then
some (0, 2)
else
(if (decide (steps_0 < 0)) = true then
some (0, 2)
else
(if (decide (steps_0 > 12)) = true then
some (0, 2)
else
((loop (r12_Count_L3 steps_0 round_1 weight_2) (0, 0)).bind fun d => match d with
| n_x8 => some (n_x8, 0))))))

theorem r12_Count_w (steps_0 : Int) (round_1 : Int) (weight_2 : Int) (r : Int × Int) (w : World) (h : r12_Count steps_0 round_1 weight_2 = some r) : CallVC Try.prog 29 [.int .i64 steps_0, .int .i64 round_1, .int .i64 weight_2] w fun v w' => v = .tuple #[.int .i64 r.1, .int .i64 r.2] ∧ Ev [] w w' := by
  refine calls_vc hmx Try.func29 (by kernel_rfl) rfl (rs := [.tmp 6, .tmp 7]) rfl (by kernel_rfl) (args := [.int .i64 steps_0, .int .i64 round_1, .int .i64 weight_2]) rfl ?_
  have hev : Ev [] w w := Ev.refl _ _
  have hms : MS w [[]] := ⟨List.pairwise_singleton _ _, fun l hl b hb => by simp only [List.mem_singleton] at hl; subst hl; cases hb⟩
  have hfr : FR w.heap.size [] := FR.nil _
  refine c_seq ?_
  refine c_plain ?_
  refine x_pure 2 [(6, .int .i64 0), (7, .int .i64 0)] _ _ _ (by kernel_rfl) ?_
  refine x_end rfl ?_
  refine k_then ?_
  refine c_norm [(0, .int .i64 steps_0), (1, .int .i64 round_1), (2, .int .i64 weight_2)] ⟨rfl, rfl, rfl, trivial⟩ (fun J => ?_)
  refine c_seq ?_
  refine c_seq ?_
  refine c_plain ?_
  refine x_pure 2 [(10, .int .i64 round_1), (11, .int .i64 weight_2)] _ _ _ (by kernel_rfl) ?_
  obtain ⟨x1, hx, h⟩ := bind_some h
  have hcall := r12_form_w round_1 weight_2 _ w hx
  refine x_call 36 #[] #[] [.int .i64 round_1, .int .i64 weight_2] _ rfl rfl rfl rfl hcall ?_
  rintro v w2 ⟨rfl, he2⟩
  clear hcall hx
  refine ⟨.inl rfl, ?_⟩
  replace hms := hms.ev he2
  replace hev := hev.ext he2
  refine x_pure 2 [(13, .bool (!x1)), (14, .bool (!x1))] _ _ _ (by kernel_rfl) ?_
  refine x_split 14 (!x1) rfl (fun hb => ?_) (fun hb => ?_)
  · replace h := ite_t hb h
    refine x_pure 7 [(15, undef), (16, undef), (17, .bool true), (18, .bool true), (19, undef), (20, undef), (21, .bool true)] _ _ _ (by kernel_rfl) ?_
    refine x_end rfl ?_
    refine k_then ?_
    refine c_norm [(0, .int .i64 steps_0), (1, .int .i64 round_1), (2, .int .i64 weight_2), (21, .bool true)] ⟨rfl, rfl, rfl, rfl, trivial⟩ (fun J => ?_)
    refine c_true rfl ?_
    refine c_seq ?_
    refine c_plain ?_
    refine x_pure 2 [(6, .int .i64 0), (7, .int .i64 2)] _ _ _ (by kernel_rfl) ?_
    refine x_end rfl ?_
    refine k_then ?_
    refine c_norm [(6, .int .i64 0), (7, .int .i64 2)] ⟨rfl, rfl, trivial⟩ (fun J => ?_)
    refine c_ret ?_
    refine k_then_ret ?_
    refine r_ret (r_two (.int .i64 0) (.int .i64 2) rfl rfl ?_)
    have hx := some_inj h
    subst hx
    exact ⟨rfl, hev⟩
  · replace h := ite_f hb h
    refine x_pure 4 [(15, .int .i64 steps_0), (16, .bool (decide (steps_0 < 0))), (17, .bool (decide (steps_0 < 0))), (18, .bool (decide (steps_0 < 0)))] _ _ _ (by kernel_rfl) ?_
    refine x_split 18 (decide (steps_0 < 0)) rfl (fun hb => ?_) (fun hb => ?_)
    · replace h := ite_t hb h
      refine x_pure 3 [(19, undef), (20, undef), (21, .bool true)] _ _ _ (by kernel_rfl) ?_
      refine x_end rfl ?_
      refine k_then ?_
      refine c_norm [(0, .int .i64 steps_0), (1, .int .i64 round_1), (2, .int .i64 weight_2), (21, .bool true)] ⟨rfl, rfl, rfl, rfl, trivial⟩ (fun J => ?_)
      refine c_true rfl ?_
      refine c_seq ?_
      refine c_plain ?_
      refine x_pure 2 [(6, .int .i64 0), (7, .int .i64 2)] _ _ _ (by kernel_rfl) ?_
      refine x_end rfl ?_
      refine k_then ?_
      refine c_norm [(6, .int .i64 0), (7, .int .i64 2)] ⟨rfl, rfl, trivial⟩ (fun J => ?_)
      refine c_ret ?_
      refine k_then_ret ?_
      refine r_ret (r_two (.int .i64 0) (.int .i64 2) rfl rfl ?_)
      have hx := some_inj h
      subst hx
      exact ⟨rfl, hev⟩
    · replace h := ite_f hb h
      refine x_pure 3 [(19, .int .i64 steps_0), (20, .bool (decide (steps_0 > 12))), (21, .bool (decide (steps_0 > 12)))] _ _ _ (by kernel_rfl) ?_
      refine x_end rfl ?_
      refine k_then ?_
      refine c_norm [(0, .int .i64 steps_0), (1, .int .i64 round_1), (2, .int .i64 weight_2), (21, .bool (decide (steps_0 > 12)))] ⟨rfl, rfl, rfl, rfl, trivial⟩ (fun J => ?_)
      refine c_cond (decide (steps_0 > 12)) rfl (fun hb => ?_) (fun hb => ?_)
      · replace h := ite_t hb h
        refine c_seq ?_
        refine c_plain ?_
        refine x_pure 2 [(6, .int .i64 0), (7, .int .i64 2)] _ _ _ (by kernel_rfl) ?_
        refine x_end rfl ?_
        refine k_then ?_
        refine c_norm [(6, .int .i64 0), (7, .int .i64 2)] ⟨rfl, rfl, trivial⟩ (fun J => ?_)
        refine c_ret ?_
        refine k_then_ret ?_
        refine r_ret (r_two (.int .i64 0) (.int .i64 2) rfl rfl ?_)
        have hx := some_inj h
        subst hx
        exact ⟨rfl, hev⟩
      · replace h := ite_f hb h
        refine c_skip ?_
        refine k_then ?_
        refine c_norm [(0, .int .i64 steps_0), (1, .int .i64 round_1), (2, .int .i64 weight_2)] ⟨rfl, rfl, rfl, trivial⟩ (fun J => ?_)
        refine c_seq ?_
        refine c_plain ?_
        refine x_pure 1 [(8, .int .i64 0)] _ _ _ (by kernel_rfl) ?_
        refine x_end rfl ?_
        refine k_then ?_
        refine c_norm [(0, .int .i64 steps_0), (1, .int .i64 round_1), (2, .int .i64 weight_2), (8, .int .i64 0)] ⟨rfl, rfl, rfl, rfl, trivial⟩ (fun J => ?_)
        refine c_seq ?_
        refine c_seq ?_
        refine c_plain ?_
        refine x_pure 1 [(9, .int .i64 0)] _ _ _ (by kernel_rfl) ?_
        refine x_end rfl ?_
        refine k_then ?_
        refine c_norm [(0, .int .i64 steps_0), (1, .int .i64 round_1), (2, .int .i64 weight_2), (8, .int .i64 0), (9, .int .i64 0)] ⟨rfl, rfl, rfl, rfl, rfl, trivial⟩ (fun J => ?_)
        refine c_block ?_
        obtain ⟨d3, hd3, h3⟩ := bind_some h
        obtain ⟨m3, hd3⟩ := loop_some hd3
        refine c_loop (loop_rule hmx (σ := Nat × Int × Int) (fun s => match s with | (_, n_s8, k_s9) => [(0, .int .i64 steps_0), (1, .int .i64 round_1), (2, .int .i64 weight_2), (8, .int .i64 n_s8), (9, .int .i64 k_s9)]) (fun s w' => match s with | (m, n_s8, k_s9) => loopN (r12_Count_L3 steps_0 round_1 weight_2) m (n_s8, k_s9) = some d3 ∧ Ev [] w w' ∧ MS w' [[]] ∧ FR w.heap.size []) (fun s => s.1) (m3, 0, 0) ⟨rfl, rfl, rfl, rfl, rfl, trivial⟩ ⟨hd3, hev, hms, hfr⟩ ?_)
        rintro ⟨m3, n_s8, k_s9⟩ J w3 ⟨hn3, hev, hms, hfr⟩
        rcases m3 with _ | m3
        · exact (loopN_zero hn3).elim
        obtain ⟨t3, h, hn3⟩ := bind_some hn3
        refine c_seq ?_
        refine c_seq ?_
        refine c_plain ?_
        refine x_pure 2 [(22, .int .i64 k_s9), (23, .int .i64 steps_0)] _ _ _ (by kernel_rfl) ?_
        refine x_binop (.int .i64 (IntKind.i64.wrap (1 * 2 ^ (min (Int.toNat (steps_0)) IntKind.i64.bits)))) (.int .i64 1) (.int .i64 steps_0) rfl rfl rfl rfl (vb_shl (guard_l h)) ?_
        replace h := guard_r h
        refine x_pure 1 [(25, .bool (decide (k_s9 < (IntKind.i64.wrap (1 * 2 ^ (min (Int.toNat (steps_0)) IntKind.i64.bits))))))] _ _ _ (by kernel_rfl) ?_
        refine x_end rfl ?_
        refine k_then ?_
        refine c_norm [(0, .int .i64 steps_0), (1, .int .i64 round_1), (2, .int .i64 weight_2), (8, .int .i64 n_s8), (9, .int .i64 k_s9), (25, .bool (decide (k_s9 < (IntKind.i64.wrap (1 * 2 ^ (min (Int.toNat (steps_0)) IntKind.i64.bits))))))] ⟨rfl, rfl, rfl, rfl, rfl, rfl, trivial⟩ (fun J => ?_)
        refine c_cond (decide (k_s9 < (IntKind.i64.wrap (1 * 2 ^ (min (Int.toNat (steps_0)) IntKind.i64.bits))))) rfl (fun hb => ?_) (fun hb => ?_)
        · replace h := ite_t hb h
          refine c_skip ?_
          refine k_then ?_
          refine c_norm [(0, .int .i64 steps_0), (1, .int .i64 round_1), (2, .int .i64 weight_2), (8, .int .i64 n_s8), (9, .int .i64 k_s9)] ⟨rfl, rfl, rfl, rfl, rfl, trivial⟩ (fun J => ?_)
          refine c_seq ?_
          refine c_block ?_
          refine c_seq ?_
          refine c_plain ?_
          refine x_pure 3 [(28, .int .i64 k_s9), (29, .int .i64 round_1), (30, .int .i64 weight_2)] _ _ _ (by kernel_rfl) ?_
          obtain ⟨x4, hx, h⟩ := bind_some h
          have hcall := r12_Is_w k_s9 round_1 weight_2 _ w3 hx
          refine x_call 28 #[] #[] [.int .i64 k_s9, .int .i64 round_1, .int .i64 weight_2] _ rfl rfl rfl rfl hcall ?_
          rintro v w5 ⟨rfl, he5⟩
          clear hcall hx
          refine ⟨.inl rfl, ?_⟩
          replace hms := hms.ev he5
          replace hev := hev.ext he5
          refine x_end rfl ?_
          refine k_then ?_
          refine c_norm [(0, .int .i64 steps_0), (1, .int .i64 round_1), (2, .int .i64 weight_2), (8, .int .i64 n_s8), (9, .int .i64 k_s9), (31, .bool x4)] ⟨rfl, rfl, rfl, rfl, rfl, rfl, trivial⟩ (fun J => ?_)
          refine c_cond x4 rfl (fun hb => ?_) (fun hb => ?_)
          · replace h := ite_t hb h
            refine c_plain ?_
            refine x_pure 3 [(32, .int .i64 n_s8), (33, .int .i64 (IntKind.i64.wrap (n_s8 + 1))), (8, .int .i64 (IntKind.i64.wrap (n_s8 + 1)))] _ _ _ (by kernel_rfl) ?_
            refine x_end rfl ?_
            refine k_block ?_
            refine k_then ?_
            refine c_norm [(0, .int .i64 steps_0), (1, .int .i64 round_1), (2, .int .i64 weight_2), (8, .int .i64 (IntKind.i64.wrap (n_s8 + 1))), (9, .int .i64 k_s9)] ⟨rfl, rfl, rfl, rfl, rfl, trivial⟩ (fun J => ?_)
            refine c_plain ?_
            refine x_pure 3 [(26, .int .i64 k_s9), (27, .int .i64 (IntKind.i64.wrap (k_s9 + 1))), (9, .int .i64 (IntKind.i64.wrap (k_s9 + 1)))] _ _ _ (by kernel_rfl) ?_
            refine x_end rfl ?_
            have hx := some_inj h
            subst hx
            exact k_then ⟨(m3, IntKind.i64.wrap (n_s8 + 1), IntKind.i64.wrap (k_s9 + 1)), ⟨rfl, rfl, rfl, rfl, rfl, trivial⟩, ⟨hn3, hev, hms, hfr⟩, Nat.lt_succ_self _⟩
          · replace h := ite_f hb h
            refine c_skip ?_
            refine k_block ?_
            refine k_then ?_
            refine c_norm [(0, .int .i64 steps_0), (1, .int .i64 round_1), (2, .int .i64 weight_2), (8, .int .i64 n_s8), (9, .int .i64 k_s9)] ⟨rfl, rfl, rfl, rfl, rfl, trivial⟩ (fun J => ?_)
            refine c_plain ?_
            refine x_pure 3 [(26, .int .i64 k_s9), (27, .int .i64 (IntKind.i64.wrap (k_s9 + 1))), (9, .int .i64 (IntKind.i64.wrap (k_s9 + 1)))] _ _ _ (by kernel_rfl) ?_
            refine x_end rfl ?_
            have hx := some_inj h
            subst hx
            exact k_then ⟨(m3, n_s8, IntKind.i64.wrap (k_s9 + 1)), ⟨rfl, rfl, rfl, rfl, rfl, trivial⟩, ⟨hn3, hev, hms, hfr⟩, Nat.lt_succ_self _⟩
        · replace h := ite_f hb h
          refine c_exit ?_
          refine k_then_exit ?_
          have hx := some_inj h
          subst hx
          have hy := some_inj hn3
          subst hy
          replace h := h3
          refine k_then_exit ?_
          refine k_block_in ?_
          refine k_then ?_
          refine c_norm [(8, .int .i64 n_s8)] ⟨rfl, trivial⟩ (fun J => ?_)
          refine c_seq ?_
          refine c_plain ?_
          refine x_pure 3 [(34, .int .i64 n_s8), (6, .int .i64 n_s8), (7, .int .i64 0)] _ _ _ (by kernel_rfl) ?_
          refine x_end rfl ?_
          refine k_then ?_
          refine c_norm [(6, .int .i64 n_s8), (7, .int .i64 0)] ⟨rfl, rfl, trivial⟩ (fun J => ?_)
          refine c_ret ?_
          refine r_ret (r_two (.int .i64 n_s8) (.int .i64 0) rfl rfl ?_)
          have hx := some_inj h
          subst hx
          exact ⟨rfl, hev⟩
def r12_Nth_L3 (round_1 : Int) (weight_2 : Int) (s : Int × Int) : Option (Step (Int × Int) ((Int × Int) ⊕ Unit)) :=
match s with
| (i_s0, k_s8) =>
(if (decide (k_s8 < 4096)) = true then
((r12_Is k_s8 round_1 weight_2).bind fun x4 =>
(if (!x4) = true then
some (.next (i_s0, IntKind.i64.wrap (k_s8 + 1)))
else
(if (i_s0 == 0) = true then
some (.done (.inl (k_s8, 0)))
else
some (.next (IntKind.i64.wrap (i_s0 - 1), IntKind.i64.wrap (k_s8 + 1))))))
else
some (.done (.inr ())))

def r12_Nth (i_0 : Int) (round_1 : Int) (weight_2 : Int) : Option (Int × Int) :=
((r12_form round_1 weight_2).bind fun x1 =>
(if (!x1) = true then
some (0, 2)
else
(if (decide (i_0 < 0)) = true then
some (0, 2)
else
((loop (r12_Nth_L3 round_1 weight_2) (i_0, 0)).bind fun d => match d with
| (.inl (t6__x6, t7__x7)) => some (t6__x6, t7__x7)
| (.inr _) => some (0, 15)))))

theorem r12_Nth_w (i_0 : Int) (round_1 : Int) (weight_2 : Int) (r : Int × Int) (w : World) (h : r12_Nth i_0 round_1 weight_2 = some r) : CallVC Try.prog 30 [.int .i64 i_0, .int .i64 round_1, .int .i64 weight_2] w fun v w' => v = .tuple #[.int .i64 r.1, .int .i64 r.2] ∧ Ev [] w w' := by
  refine calls_vc hmx Try.func30 (by kernel_rfl) rfl (rs := [.tmp 6, .tmp 7]) rfl (by kernel_rfl) (args := [.int .i64 i_0, .int .i64 round_1, .int .i64 weight_2]) rfl ?_
  have hev : Ev [] w w := Ev.refl _ _
  have hms : MS w [[]] := ⟨List.pairwise_singleton _ _, fun l hl b hb => by simp only [List.mem_singleton] at hl; subst hl; cases hb⟩
  have hfr : FR w.heap.size [] := FR.nil _
  refine c_seq ?_
  refine c_plain ?_
  refine x_pure 2 [(6, .int .i64 0), (7, .int .i64 0)] _ _ _ (by kernel_rfl) ?_
  refine x_end rfl ?_
  refine k_then ?_
  refine c_norm [(0, .int .i64 i_0), (1, .int .i64 round_1), (2, .int .i64 weight_2)] ⟨rfl, rfl, rfl, trivial⟩ (fun J => ?_)
  refine c_seq ?_
  refine c_seq ?_
  refine c_plain ?_
  refine x_pure 2 [(9, .int .i64 round_1), (10, .int .i64 weight_2)] _ _ _ (by kernel_rfl) ?_
  obtain ⟨x1, hx, h⟩ := bind_some h
  have hcall := r12_form_w round_1 weight_2 _ w hx
  refine x_call 36 #[] #[] [.int .i64 round_1, .int .i64 weight_2] _ rfl rfl rfl rfl hcall ?_
  rintro v w2 ⟨rfl, he2⟩
  clear hcall hx
  refine ⟨.inl rfl, ?_⟩
  replace hms := hms.ev he2
  replace hev := hev.ext he2
  refine x_pure 2 [(12, .bool (!x1)), (13, .bool (!x1))] _ _ _ (by kernel_rfl) ?_
  refine x_split 13 (!x1) rfl (fun hb => ?_) (fun hb => ?_)
  · replace h := ite_t hb h
    refine x_pure 3 [(14, undef), (15, undef), (16, .bool true)] _ _ _ (by kernel_rfl) ?_
    refine x_end rfl ?_
    refine k_then ?_
    refine c_norm [(0, .int .i64 i_0), (1, .int .i64 round_1), (2, .int .i64 weight_2), (16, .bool true)] ⟨rfl, rfl, rfl, rfl, trivial⟩ (fun J => ?_)
    refine c_true rfl ?_
    refine c_seq ?_
    refine c_plain ?_
    refine x_pure 2 [(6, .int .i64 0), (7, .int .i64 2)] _ _ _ (by kernel_rfl) ?_
    refine x_end rfl ?_
    refine k_then ?_
    refine c_norm [(6, .int .i64 0), (7, .int .i64 2)] ⟨rfl, rfl, trivial⟩ (fun J => ?_)
    refine c_ret ?_
    refine k_then_ret ?_
    refine r_ret (r_two (.int .i64 0) (.int .i64 2) rfl rfl ?_)
    have hx := some_inj h
    subst hx
    exact ⟨rfl, hev⟩
  · replace h := ite_f hb h
    refine x_pure 3 [(14, .int .i64 i_0), (15, .bool (decide (i_0 < 0))), (16, .bool (decide (i_0 < 0)))] _ _ _ (by kernel_rfl) ?_
    refine x_end rfl ?_
    refine k_then ?_
    refine c_norm [(0, .int .i64 i_0), (1, .int .i64 round_1), (2, .int .i64 weight_2), (16, .bool (decide (i_0 < 0)))] ⟨rfl, rfl, rfl, rfl, trivial⟩ (fun J => ?_)
    refine c_cond (decide (i_0 < 0)) rfl (fun hb => ?_) (fun hb => ?_)
    · replace h := ite_t hb h
      refine c_seq ?_
      refine c_plain ?_
      refine x_pure 2 [(6, .int .i64 0), (7, .int .i64 2)] _ _ _ (by kernel_rfl) ?_
      refine x_end rfl ?_
      refine k_then ?_
      refine c_norm [(6, .int .i64 0), (7, .int .i64 2)] ⟨rfl, rfl, trivial⟩ (fun J => ?_)
      refine c_ret ?_
      refine k_then_ret ?_
      refine r_ret (r_two (.int .i64 0) (.int .i64 2) rfl rfl ?_)
      have hx := some_inj h
      subst hx
      exact ⟨rfl, hev⟩
    · replace h := ite_f hb h
      refine c_skip ?_
      refine k_then ?_
      refine c_norm [(0, .int .i64 i_0), (1, .int .i64 round_1), (2, .int .i64 weight_2)] ⟨rfl, rfl, rfl, trivial⟩ (fun J => ?_)
      refine c_seq ?_
      refine c_seq ?_
      refine c_plain ?_
      refine x_pure 1 [(8, .int .i64 0)] _ _ _ (by kernel_rfl) ?_
      refine x_end rfl ?_
      refine k_then ?_
      refine c_norm [(0, .int .i64 i_0), (1, .int .i64 round_1), (2, .int .i64 weight_2), (8, .int .i64 0)] ⟨rfl, rfl, rfl, rfl, trivial⟩ (fun J => ?_)
      refine c_block ?_
      obtain ⟨d3, hd3, h3⟩ := bind_some h
      obtain ⟨m3, hd3⟩ := loop_some hd3
      refine c_loop (loop_rule hmx (σ := Nat × Int × Int) (fun s => match s with | (_, i_s0, k_s8) => [(1, .int .i64 round_1), (2, .int .i64 weight_2), (0, .int .i64 i_s0), (8, .int .i64 k_s8)]) (fun s w' => match s with | (m, i_s0, k_s8) => loopN (r12_Nth_L3 round_1 weight_2) m (i_s0, k_s8) = some d3 ∧ Ev [] w w' ∧ MS w' [[]] ∧ FR w.heap.size []) (fun s => s.1) (m3, i_0, 0) ⟨rfl, rfl, rfl, rfl, trivial⟩ ⟨hd3, hev, hms, hfr⟩ ?_)
      rintro ⟨m3, i_s0, k_s8⟩ J w3 ⟨hn3, hev, hms, hfr⟩
      rcases m3 with _ | m3
      · exact (loopN_zero hn3).elim
      obtain ⟨t3, h, hn3⟩ := bind_some hn3
      refine c_seq ?_
      refine c_seq ?_
      refine c_plain ?_
      refine x_pure 2 [(17, .int .i64 k_s8), (18, .bool (decide (k_s8 < 4096)))] _ _ _ (by kernel_rfl) ?_
      refine x_end rfl ?_
      refine k_then ?_
      refine c_norm [(0, .int .i64 i_s0), (1, .int .i64 round_1), (2, .int .i64 weight_2), (8, .int .i64 k_s8), (18, .bool (decide (k_s8 < 4096)))] ⟨rfl, rfl, rfl, rfl, rfl, trivial⟩ (fun J => ?_)
      refine c_cond (decide (k_s8 < 4096)) rfl (fun hb => ?_) (fun hb => ?_)
      · replace h := ite_t hb h
        refine c_skip ?_
        refine k_then ?_
        refine c_norm [(0, .int .i64 i_s0), (1, .int .i64 round_1), (2, .int .i64 weight_2), (8, .int .i64 k_s8)] ⟨rfl, rfl, rfl, rfl, trivial⟩ (fun J => ?_)
        refine c_seq ?_
        refine c_block ?_
        refine c_seq ?_
        refine c_seq ?_
        refine c_plain ?_
        refine x_pure 3 [(21, .int .i64 k_s8), (22, .int .i64 round_1), (23, .int .i64 weight_2)] _ _ _ (by kernel_rfl) ?_
        obtain ⟨x4, hx, h⟩ := bind_some h
        have hcall := r12_Is_w k_s8 round_1 weight_2 _ w3 hx
        refine x_call 28 #[] #[] [.int .i64 k_s8, .int .i64 round_1, .int .i64 weight_2] _ rfl rfl rfl rfl hcall ?_
        rintro v w5 ⟨rfl, he5⟩
        clear hcall hx
        refine ⟨.inl rfl, ?_⟩
        replace hms := hms.ev he5
        replace hev := hev.ext he5
        refine x_pure 1 [(25, .bool (!x4))] _ _ _ (by kernel_rfl) ?_
        refine x_end rfl ?_
        refine k_then ?_
        refine c_norm [(0, .int .i64 i_s0), (1, .int .i64 round_1), (2, .int .i64 weight_2), (8, .int .i64 k_s8), (25, .bool (!x4))] ⟨rfl, rfl, rfl, rfl, rfl, trivial⟩ (fun J => ?_)
        refine c_cond (!x4) rfl (fun hb => ?_) (fun hb => ?_)
        · replace h := ite_t hb h
          refine c_exit ?_
          refine k_then_exit ?_
          refine k_block_in ?_
          refine k_then ?_
          refine c_norm [(0, .int .i64 i_s0), (1, .int .i64 round_1), (2, .int .i64 weight_2), (8, .int .i64 k_s8)] ⟨rfl, rfl, rfl, rfl, trivial⟩ (fun J => ?_)
          refine c_plain ?_
          refine x_pure 3 [(19, .int .i64 k_s8), (20, .int .i64 (IntKind.i64.wrap (k_s8 + 1))), (8, .int .i64 (IntKind.i64.wrap (k_s8 + 1)))] _ _ _ (by kernel_rfl) ?_
          refine x_end rfl ?_
          have hx := some_inj h
          subst hx
          exact k_then ⟨(m3, i_s0, IntKind.i64.wrap (k_s8 + 1)), ⟨rfl, rfl, rfl, rfl, trivial⟩, ⟨hn3, hev, hms, hfr⟩, Nat.lt_succ_self _⟩
        · replace h := ite_f hb h
          refine c_skip ?_
          refine k_then ?_
          refine c_norm [(0, .int .i64 i_s0), (1, .int .i64 round_1), (2, .int .i64 weight_2), (8, .int .i64 k_s8)] ⟨rfl, rfl, rfl, rfl, trivial⟩ (fun J => ?_)
          refine c_seq ?_
          refine c_seq ?_
          refine c_plain ?_
          refine x_pure 2 [(26, .int .i64 i_s0), (27, .bool (i_s0 == 0))] _ _ _ (by kernel_rfl) ?_
          refine x_end rfl ?_
          refine k_then ?_
          refine c_norm [(0, .int .i64 i_s0), (1, .int .i64 round_1), (2, .int .i64 weight_2), (8, .int .i64 k_s8), (27, .bool (i_s0 == 0))] ⟨rfl, rfl, rfl, rfl, rfl, trivial⟩ (fun J => ?_)
          refine c_cond (i_s0 == 0) rfl (fun hb => ?_) (fun hb => ?_)
          · replace h := ite_t hb h
            refine c_seq ?_
            refine c_plain ?_
            refine x_pure 3 [(28, .int .i64 k_s8), (6, .int .i64 k_s8), (7, .int .i64 0)] _ _ _ (by kernel_rfl) ?_
            refine x_end rfl ?_
            refine k_then ?_
            refine c_norm [(6, .int .i64 k_s8), (7, .int .i64 0)] ⟨rfl, rfl, trivial⟩ (fun J => ?_)
            refine c_ret ?_
            refine k_then_ret ?_
            refine k_block_ret ?_
            refine k_then_ret ?_
            have hx := some_inj h
            subst hx
            have hy := some_inj hn3
            subst hy
            replace h := h3
            refine k_then_ret ?_
            refine k_block_ret ?_
            refine k_then_ret ?_
            refine r_ret (r_two (.int .i64 k_s8) (.int .i64 0) rfl rfl ?_)
            have hx := some_inj h
            subst hx
            exact ⟨rfl, hev⟩
          · replace h := ite_f hb h
            refine c_skip ?_
            refine k_then ?_
            refine c_norm [(0, .int .i64 i_s0), (1, .int .i64 round_1), (2, .int .i64 weight_2), (8, .int .i64 k_s8)] ⟨rfl, rfl, rfl, rfl, trivial⟩ (fun J => ?_)
            refine c_plain ?_
            refine x_pure 3 [(29, .int .i64 i_s0), (30, .int .i64 (IntKind.i64.wrap (i_s0 - 1))), (0, .int .i64 (IntKind.i64.wrap (i_s0 - 1)))] _ _ _ (by kernel_rfl) ?_
            refine x_end rfl ?_
            refine k_block ?_
            refine k_then ?_
            refine c_norm [(0, .int .i64 (IntKind.i64.wrap (i_s0 - 1))), (1, .int .i64 round_1), (2, .int .i64 weight_2), (8, .int .i64 k_s8)] ⟨rfl, rfl, rfl, rfl, trivial⟩ (fun J => ?_)
            refine c_plain ?_
            refine x_pure 3 [(19, .int .i64 k_s8), (20, .int .i64 (IntKind.i64.wrap (k_s8 + 1))), (8, .int .i64 (IntKind.i64.wrap (k_s8 + 1)))] _ _ _ (by kernel_rfl) ?_
            refine x_end rfl ?_
            have hx := some_inj h
            subst hx
            exact k_then ⟨(m3, IntKind.i64.wrap (i_s0 - 1), IntKind.i64.wrap (k_s8 + 1)), ⟨rfl, rfl, rfl, rfl, trivial⟩, ⟨hn3, hev, hms, hfr⟩, Nat.lt_succ_self _⟩
      · replace h := ite_f hb h
        refine c_exit ?_
        refine k_then_exit ?_
        have hx := some_inj h
        subst hx
        have hy := some_inj hn3
        subst hy
        replace h := h3
        refine k_then_exit ?_
        refine k_block_in ?_
        refine k_then ?_
        refine c_norm [] trivial (fun J => ?_)
        refine c_seq ?_
        refine c_plain ?_
        refine x_pure 2 [(6, .int .i64 0), (7, .int .i64 15)] _ _ _ (by kernel_rfl) ?_
        refine x_end rfl ?_
        refine k_then ?_
        refine c_norm [(6, .int .i64 0), (7, .int .i64 15)] ⟨rfl, rfl, trivial⟩ (fun J => ?_)
        refine c_ret ?_
        refine r_ret (r_two (.int .i64 0) (.int .i64 15) rfl rfl ?_)
        have hx := some_inj h
        subst hx
        exact ⟨rfl, hev⟩
def r12_Rank_L5 (k_0 : Int) (round_1 : Int) (weight_2 : Int) (s : Int × Int) : Option (Step (Int × Int) Int) :=
match s with
| (n_s8, x_s9) =>
(if (decide (x_s9 < k_0)) = true then
((r12_Is x_s9 round_1 weight_2).bind fun x6 =>
(if x6 = true then
some (.next (IntKind.i64.wrap (n_s8 + 1), IntKind.i64.wrap (x_s9 + 1)))
else
some (.next (n_s8, IntKind.i64.wrap (x_s9 + 1)))))
else
some (.done n_s8))

def r12_Rank (k_0 : Int) (round_1 : Int) (weight_2 : Int) : Option (Int × Int) :=
((r12_form round_1 weight_2).bind fun x1 =>
(if (!x1) = true then
some (0, 2)
else
((r12_Is k_0 round_1 weight_2).bind fun x3 =>
(if (!x3) = true then
some (0, 15)
else
((loop (r12_Rank_L5 k_0 round_1 weight_2) (0, 0)).bind fun d => match d with
| n_x8 => some (n_x8, 0))))))

theorem r12_Rank_w (k_0 : Int) (round_1 : Int) (weight_2 : Int) (r : Int × Int) (w : World) (h : r12_Rank k_0 round_1 weight_2 = some r) : CallVC Try.prog 31 [.int .i64 k_0, .int .i64 round_1, .int .i64 weight_2] w fun v w' => v = .tuple #[.int .i64 r.1, .int .i64 r.2] ∧ Ev [] w w' := by
  refine calls_vc hmx Try.func31 (by kernel_rfl) rfl (rs := [.tmp 6, .tmp 7]) rfl (by kernel_rfl) (args := [.int .i64 k_0, .int .i64 round_1, .int .i64 weight_2]) rfl ?_
  have hev : Ev [] w w := Ev.refl _ _
  have hms : MS w [[]] := ⟨List.pairwise_singleton _ _, fun l hl b hb => by simp only [List.mem_singleton] at hl; subst hl; cases hb⟩
  have hfr : FR w.heap.size [] := FR.nil _
  refine c_seq ?_
  refine c_plain ?_
  refine x_pure 2 [(6, .int .i64 0), (7, .int .i64 0)] _ _ _ (by kernel_rfl) ?_
  refine x_end rfl ?_
  refine k_then ?_
  refine c_norm [(0, .int .i64 k_0), (1, .int .i64 round_1), (2, .int .i64 weight_2)] ⟨rfl, rfl, rfl, trivial⟩ (fun J => ?_)
  refine c_seq ?_
  refine c_seq ?_
  refine c_plain ?_
  refine x_pure 2 [(10, .int .i64 round_1), (11, .int .i64 weight_2)] _ _ _ (by kernel_rfl) ?_
  obtain ⟨x1, hx, h⟩ := bind_some h
  have hcall := r12_form_w round_1 weight_2 _ w hx
  refine x_call 36 #[] #[] [.int .i64 round_1, .int .i64 weight_2] _ rfl rfl rfl rfl hcall ?_
  rintro v w2 ⟨rfl, he2⟩
  clear hcall hx
  refine ⟨.inl rfl, ?_⟩
  replace hms := hms.ev he2
  replace hev := hev.ext he2
  refine x_pure 1 [(13, .bool (!x1))] _ _ _ (by kernel_rfl) ?_
  refine x_end rfl ?_
  refine k_then ?_
  refine c_norm [(0, .int .i64 k_0), (1, .int .i64 round_1), (2, .int .i64 weight_2), (13, .bool (!x1))] ⟨rfl, rfl, rfl, rfl, trivial⟩ (fun J => ?_)
  refine c_cond (!x1) rfl (fun hb => ?_) (fun hb => ?_)
  · replace h := ite_t hb h
    refine c_seq ?_
    refine c_plain ?_
    refine x_pure 2 [(6, .int .i64 0), (7, .int .i64 2)] _ _ _ (by kernel_rfl) ?_
    refine x_end rfl ?_
    refine k_then ?_
    refine c_norm [(6, .int .i64 0), (7, .int .i64 2)] ⟨rfl, rfl, trivial⟩ (fun J => ?_)
    refine c_ret ?_
    refine k_then_ret ?_
    refine r_ret (r_two (.int .i64 0) (.int .i64 2) rfl rfl ?_)
    have hx := some_inj h
    subst hx
    exact ⟨rfl, hev⟩
  · replace h := ite_f hb h
    refine c_skip ?_
    refine k_then ?_
    refine c_norm [(0, .int .i64 k_0), (1, .int .i64 round_1), (2, .int .i64 weight_2)] ⟨rfl, rfl, rfl, trivial⟩ (fun J => ?_)
    refine c_seq ?_
    refine c_seq ?_
    refine c_plain ?_
    refine x_pure 3 [(14, .int .i64 k_0), (15, .int .i64 round_1), (16, .int .i64 weight_2)] _ _ _ (by kernel_rfl) ?_
    obtain ⟨x3, hx, h⟩ := bind_some h
    have hcall := r12_Is_w k_0 round_1 weight_2 _ w2 hx
    refine x_call 28 #[] #[] [.int .i64 k_0, .int .i64 round_1, .int .i64 weight_2] _ rfl rfl rfl rfl hcall ?_
    rintro v w4 ⟨rfl, he4⟩
    clear hcall hx
    refine ⟨.inl rfl, ?_⟩
    replace hms := hms.ev he4
    replace hev := hev.ext he4
    refine x_pure 1 [(18, .bool (!x3))] _ _ _ (by kernel_rfl) ?_
    refine x_end rfl ?_
    refine k_then ?_
    refine c_norm [(0, .int .i64 k_0), (1, .int .i64 round_1), (2, .int .i64 weight_2), (18, .bool (!x3))] ⟨rfl, rfl, rfl, rfl, trivial⟩ (fun J => ?_)
    refine c_cond (!x3) rfl (fun hb => ?_) (fun hb => ?_)
    · replace h := ite_t hb h
      refine c_seq ?_
      refine c_plain ?_
      refine x_pure 2 [(6, .int .i64 0), (7, .int .i64 15)] _ _ _ (by kernel_rfl) ?_
      refine x_end rfl ?_
      refine k_then ?_
      refine c_norm [(6, .int .i64 0), (7, .int .i64 15)] ⟨rfl, rfl, trivial⟩ (fun J => ?_)
      refine c_ret ?_
      refine k_then_ret ?_
      refine r_ret (r_two (.int .i64 0) (.int .i64 15) rfl rfl ?_)
      have hx := some_inj h
      subst hx
      exact ⟨rfl, hev⟩
    · replace h := ite_f hb h
      refine c_skip ?_
      refine k_then ?_
      refine c_norm [(0, .int .i64 k_0), (1, .int .i64 round_1), (2, .int .i64 weight_2)] ⟨rfl, rfl, rfl, trivial⟩ (fun J => ?_)
      refine c_seq ?_
      refine c_plain ?_
      refine x_pure 1 [(8, .int .i64 0)] _ _ _ (by kernel_rfl) ?_
      refine x_end rfl ?_
      refine k_then ?_
      refine c_norm [(0, .int .i64 k_0), (1, .int .i64 round_1), (2, .int .i64 weight_2), (8, .int .i64 0)] ⟨rfl, rfl, rfl, rfl, trivial⟩ (fun J => ?_)
      refine c_seq ?_
      refine c_seq ?_
      refine c_plain ?_
      refine x_pure 1 [(9, .int .i64 0)] _ _ _ (by kernel_rfl) ?_
      refine x_end rfl ?_
      refine k_then ?_
      refine c_norm [(0, .int .i64 k_0), (1, .int .i64 round_1), (2, .int .i64 weight_2), (8, .int .i64 0), (9, .int .i64 0)] ⟨rfl, rfl, rfl, rfl, rfl, trivial⟩ (fun J => ?_)
      refine c_block ?_
      obtain ⟨d5, hd5, h5⟩ := bind_some h
      obtain ⟨m5, hd5⟩ := loop_some hd5
      refine c_loop (loop_rule hmx (σ := Nat × Int × Int) (fun s => match s with | (_, n_s8, x_s9) => [(0, .int .i64 k_0), (1, .int .i64 round_1), (2, .int .i64 weight_2), (8, .int .i64 n_s8), (9, .int .i64 x_s9)]) (fun s w' => match s with | (m, n_s8, x_s9) => loopN (r12_Rank_L5 k_0 round_1 weight_2) m (n_s8, x_s9) = some d5 ∧ Ev [] w w' ∧ MS w' [[]] ∧ FR w.heap.size []) (fun s => s.1) (m5, 0, 0) ⟨rfl, rfl, rfl, rfl, rfl, trivial⟩ ⟨hd5, hev, hms, hfr⟩ ?_)
      rintro ⟨m5, n_s8, x_s9⟩ J w5 ⟨hn5, hev, hms, hfr⟩
      rcases m5 with _ | m5
      · exact (loopN_zero hn5).elim
      obtain ⟨t5, h, hn5⟩ := bind_some hn5
      refine c_seq ?_
      refine c_seq ?_
      refine c_plain ?_
      refine x_pure 3 [(19, .int .i64 x_s9), (20, .int .i64 k_0), (21, .bool (decide (x_s9 < k_0)))] _ _ _ (by kernel_rfl) ?_
      refine x_end rfl ?_
      refine k_then ?_
      refine c_norm [(0, .int .i64 k_0), (1, .int .i64 round_1), (2, .int .i64 weight_2), (8, .int .i64 n_s8), (9, .int .i64 x_s9), (21, .bool (decide (x_s9 < k_0)))] ⟨rfl, rfl, rfl, rfl, rfl, rfl, trivial⟩ (fun J => ?_)
      refine c_cond (decide (x_s9 < k_0)) rfl (fun hb => ?_) (fun hb => ?_)
      · replace h := ite_t hb h
        refine c_skip ?_
        refine k_then ?_
        refine c_norm [(0, .int .i64 k_0), (1, .int .i64 round_1), (2, .int .i64 weight_2), (8, .int .i64 n_s8), (9, .int .i64 x_s9)] ⟨rfl, rfl, rfl, rfl, rfl, trivial⟩ (fun J => ?_)
        refine c_seq ?_
        refine c_block ?_
        refine c_seq ?_
        refine c_plain ?_
        refine x_pure 3 [(24, .int .i64 x_s9), (25, .int .i64 round_1), (26, .int .i64 weight_2)] _ _ _ (by kernel_rfl) ?_
        obtain ⟨x6, hx, h⟩ := bind_some h
        have hcall := r12_Is_w x_s9 round_1 weight_2 _ w5 hx
        refine x_call 28 #[] #[] [.int .i64 x_s9, .int .i64 round_1, .int .i64 weight_2] _ rfl rfl rfl rfl hcall ?_
        rintro v w7 ⟨rfl, he7⟩
        clear hcall hx
        refine ⟨.inl rfl, ?_⟩
        replace hms := hms.ev he7
        replace hev := hev.ext he7
        refine x_end rfl ?_
        refine k_then ?_
        refine c_norm [(0, .int .i64 k_0), (1, .int .i64 round_1), (2, .int .i64 weight_2), (8, .int .i64 n_s8), (9, .int .i64 x_s9), (27, .bool x6)] ⟨rfl, rfl, rfl, rfl, rfl, rfl, trivial⟩ (fun J => ?_)
        refine c_cond x6 rfl (fun hb => ?_) (fun hb => ?_)
        · replace h := ite_t hb h
          refine c_plain ?_
          refine x_pure 3 [(28, .int .i64 n_s8), (29, .int .i64 (IntKind.i64.wrap (n_s8 + 1))), (8, .int .i64 (IntKind.i64.wrap (n_s8 + 1)))] _ _ _ (by kernel_rfl) ?_
          refine x_end rfl ?_
          refine k_block ?_
          refine k_then ?_
          refine c_norm [(0, .int .i64 k_0), (1, .int .i64 round_1), (2, .int .i64 weight_2), (8, .int .i64 (IntKind.i64.wrap (n_s8 + 1))), (9, .int .i64 x_s9)] ⟨rfl, rfl, rfl, rfl, rfl, trivial⟩ (fun J => ?_)
          refine c_plain ?_
          refine x_pure 3 [(22, .int .i64 x_s9), (23, .int .i64 (IntKind.i64.wrap (x_s9 + 1))), (9, .int .i64 (IntKind.i64.wrap (x_s9 + 1)))] _ _ _ (by kernel_rfl) ?_
          refine x_end rfl ?_
          have hx := some_inj h
          subst hx
          exact k_then ⟨(m5, IntKind.i64.wrap (n_s8 + 1), IntKind.i64.wrap (x_s9 + 1)), ⟨rfl, rfl, rfl, rfl, rfl, trivial⟩, ⟨hn5, hev, hms, hfr⟩, Nat.lt_succ_self _⟩
        · replace h := ite_f hb h
          refine c_skip ?_
          refine k_block ?_
          refine k_then ?_
          refine c_norm [(0, .int .i64 k_0), (1, .int .i64 round_1), (2, .int .i64 weight_2), (8, .int .i64 n_s8), (9, .int .i64 x_s9)] ⟨rfl, rfl, rfl, rfl, rfl, trivial⟩ (fun J => ?_)
          refine c_plain ?_
          refine x_pure 3 [(22, .int .i64 x_s9), (23, .int .i64 (IntKind.i64.wrap (x_s9 + 1))), (9, .int .i64 (IntKind.i64.wrap (x_s9 + 1)))] _ _ _ (by kernel_rfl) ?_
          refine x_end rfl ?_
          have hx := some_inj h
          subst hx
          exact k_then ⟨(m5, n_s8, IntKind.i64.wrap (x_s9 + 1)), ⟨rfl, rfl, rfl, rfl, rfl, trivial⟩, ⟨hn5, hev, hms, hfr⟩, Nat.lt_succ_self _⟩
      · replace h := ite_f hb h
        refine c_exit ?_
        refine k_then_exit ?_
        have hx := some_inj h
        subst hx
        have hy := some_inj hn5
        subst hy
        replace h := h5
        refine k_then_exit ?_
        refine k_block_in ?_
        refine k_then ?_
        refine c_norm [(8, .int .i64 n_s8)] ⟨rfl, trivial⟩ (fun J => ?_)
        refine c_seq ?_
        refine c_plain ?_
        refine x_pure 3 [(30, .int .i64 n_s8), (6, .int .i64 n_s8), (7, .int .i64 0)] _ _ _ (by kernel_rfl) ?_
        refine x_end rfl ?_
        refine k_then ?_
        refine c_norm [(6, .int .i64 n_s8), (7, .int .i64 0)] ⟨rfl, rfl, trivial⟩ (fun J => ?_)
        refine c_ret ?_
        refine r_ret (r_two (.int .i64 n_s8) (.int .i64 0) rfl rfl ?_)
        have hx := some_inj h
        subst hx
        exact ⟨rfl, hev⟩
def r12_Long_L1 (s : Int × Int) : Option (Step (Int × Int) Int) :=
match s with
| (k_s0, n_s3) =>
(if (decide (k_s0 > 0)) = true then
some (.next (IntKind.i64.wrap (Int.tdiv k_s0 2), IntKind.i64.wrap (n_s3 + 1)))
else
some (.done n_s3))

def r12_Long (k_0 : Int) : Option Int :=
((loop r12_Long_L1 (k_0, 0)).bind fun d => match d with
| n_x3 => some n_x3)

theorem r12_Long_w (k_0 : Int) (r : Int) (w : World) (h : r12_Long k_0 = some r) : CallVC Try.prog 37 [.int .i64 k_0] w fun v w' => v = .int .i64 r ∧ Ev [] w w' := by
  refine calls_vc hmx Try.func37 (by kernel_rfl) rfl (rs := [.tmp 2]) rfl (by kernel_rfl) (args := [.int .i64 k_0]) rfl ?_
  have hev : Ev [] w w := Ev.refl _ _
  have hms : MS w [[]] := ⟨List.pairwise_singleton _ _, fun l hl b hb => by simp only [List.mem_singleton] at hl; subst hl; cases hb⟩
  have hfr : FR w.heap.size [] := FR.nil _
  refine c_seq ?_
  refine c_plain ?_
  refine x_pure 1 [(2, .int .i64 0)] _ _ _ (by kernel_rfl) ?_
  refine x_end rfl ?_
  refine k_then ?_
  refine c_norm [(0, .int .i64 k_0)] ⟨rfl, trivial⟩ (fun J => ?_)
  refine c_seq ?_
  refine c_plain ?_
  refine x_pure 1 [(3, .int .i64 0)] _ _ _ (by kernel_rfl) ?_
  refine x_end rfl ?_
  refine k_then ?_
  refine c_norm [(0, .int .i64 k_0), (3, .int .i64 0)] ⟨rfl, rfl, trivial⟩ (fun J => ?_)
  refine c_seq ?_
  refine c_block ?_
  obtain ⟨d1, hd1, h1⟩ := bind_some h
  obtain ⟨m1, hd1⟩ := loop_some hd1
  refine c_loop (loop_rule hmx (σ := Nat × Int × Int) (fun s => match s with | (_, k_s0, n_s3) => [(0, .int .i64 k_s0), (3, .int .i64 n_s3)]) (fun s w' => match s with | (m, k_s0, n_s3) => loopN r12_Long_L1 m (k_s0, n_s3) = some d1 ∧ Ev [] w w' ∧ MS w' [[]] ∧ FR w.heap.size []) (fun s => s.1) (m1, k_0, 0) ⟨rfl, rfl, trivial⟩ ⟨hd1, hev, hms, hfr⟩ ?_)
  rintro ⟨m1, k_s0, n_s3⟩ J w1 ⟨hn1, hev, hms, hfr⟩
  rcases m1 with _ | m1
  · exact (loopN_zero hn1).elim
  obtain ⟨t1, h, hn1⟩ := bind_some hn1
  refine c_seq ?_
  refine c_seq ?_
  refine c_plain ?_
  refine x_pure 2 [(4, .int .i64 k_s0), (5, .bool (decide (k_s0 > 0)))] _ _ _ (by kernel_rfl) ?_
  refine x_end rfl ?_
  refine k_then ?_
  refine c_norm [(0, .int .i64 k_s0), (3, .int .i64 n_s3), (5, .bool (decide (k_s0 > 0)))] ⟨rfl, rfl, rfl, trivial⟩ (fun J => ?_)
  refine c_cond (decide (k_s0 > 0)) rfl (fun hb => ?_) (fun hb => ?_)
  · replace h := ite_t hb h
    refine c_skip ?_
    refine k_then ?_
    refine c_norm [(0, .int .i64 k_s0), (3, .int .i64 n_s3)] ⟨rfl, rfl, trivial⟩ (fun J => ?_)
    refine c_seq ?_
    refine c_block ?_
    refine c_plain ?_
    refine x_pure 3 [(8, .int .i64 n_s3), (9, .int .i64 (IntKind.i64.wrap (n_s3 + 1))), (3, .int .i64 (IntKind.i64.wrap (n_s3 + 1)))] _ _ _ (by kernel_rfl) ?_
    refine x_end rfl ?_
    refine k_block ?_
    refine k_then ?_
    refine c_norm [(0, .int .i64 k_s0), (3, .int .i64 (IntKind.i64.wrap (n_s3 + 1)))] ⟨rfl, rfl, trivial⟩ (fun J => ?_)
    refine c_plain ?_
    refine x_pure 3 [(6, .int .i64 k_s0), (7, .int .i64 (IntKind.i64.wrap (Int.tdiv k_s0 2))), (0, .int .i64 (IntKind.i64.wrap (Int.tdiv k_s0 2)))] _ _ _ (by kernel_rfl) ?_
    refine x_end rfl ?_
    have hx := some_inj h
    subst hx
    exact k_then ⟨(m1, IntKind.i64.wrap (Int.tdiv k_s0 2), IntKind.i64.wrap (n_s3 + 1)), ⟨rfl, rfl, trivial⟩, ⟨hn1, hev, hms, hfr⟩, Nat.lt_succ_self _⟩
  · replace h := ite_f hb h
    refine c_exit ?_
    refine k_then_exit ?_
    have hx := some_inj h
    subst hx
    have hy := some_inj hn1
    subst hy
    replace h := h1
    refine k_then_exit ?_
    refine k_block_in ?_
    refine k_then ?_
    refine c_norm [(3, .int .i64 n_s3)] ⟨rfl, trivial⟩ (fun J => ?_)
    refine c_seq ?_
    refine c_plain ?_
    refine x_pure 2 [(10, .int .i64 n_s3), (2, .int .i64 n_s3)] _ _ _ (by kernel_rfl) ?_
    refine x_end rfl ?_
    refine k_then ?_
    refine c_norm [(2, .int .i64 n_s3)] ⟨rfl, trivial⟩ (fun J => ?_)
    refine c_ret ?_
    refine r_ret (r_one (.int .i64 n_s3) rfl ?_)
    have hx := some_inj h
    subst hx
    exact ⟨rfl, hev⟩
def r12_Steps (k_0 : Int) : Option (Int × Int) :=
(if (decide (k_0 < 0)) = true then
some (0, 2)
else
(if (decide (k_0 ≥ 4096)) = true then
some (0, 2)
else
((r12_Long k_0).bind fun x1 =>
some (x1, 0))))

theorem r12_Steps_w (k_0 : Int) (r : Int × Int) (w : World) (h : r12_Steps k_0 = some r) : CallVC Try.prog 32 [.int .i64 k_0] w fun v w' => v = .tuple #[.int .i64 r.1, .int .i64 r.2] ∧ Ev [] w w' := by
  refine calls_vc hmx Try.func32 (by kernel_rfl) rfl (rs := [.tmp 2, .tmp 3]) rfl (by kernel_rfl) (args := [.int .i64 k_0]) rfl ?_
  have hev : Ev [] w w := Ev.refl _ _
  have hms : MS w [[]] := ⟨List.pairwise_singleton _ _, fun l hl b hb => by simp only [List.mem_singleton] at hl; subst hl; cases hb⟩
  have hfr : FR w.heap.size [] := FR.nil _
  refine c_seq ?_
  refine c_plain ?_
  refine x_pure 2 [(2, .int .i64 0), (3, .int .i64 0)] _ _ _ (by kernel_rfl) ?_
  refine x_end rfl ?_
  refine k_then ?_
  refine c_norm [(0, .int .i64 k_0)] ⟨rfl, trivial⟩ (fun J => ?_)
  refine c_seq ?_
  refine c_seq ?_
  refine c_plain ?_
  refine x_pure 3 [(4, .int .i64 k_0), (5, .bool (decide (k_0 < 0))), (6, .bool (decide (k_0 < 0)))] _ _ _ (by kernel_rfl) ?_
  refine x_split 6 (decide (k_0 < 0)) rfl (fun hb => ?_) (fun hb => ?_)
  · replace h := ite_t hb h
    refine x_pure 3 [(7, undef), (8, undef), (9, .bool true)] _ _ _ (by kernel_rfl) ?_
    refine x_end rfl ?_
    refine k_then ?_
    refine c_norm [(0, .int .i64 k_0), (9, .bool true)] ⟨rfl, rfl, trivial⟩ (fun J => ?_)
    refine c_true rfl ?_
    refine c_seq ?_
    refine c_plain ?_
    refine x_pure 2 [(2, .int .i64 0), (3, .int .i64 2)] _ _ _ (by kernel_rfl) ?_
    refine x_end rfl ?_
    refine k_then ?_
    refine c_norm [(2, .int .i64 0), (3, .int .i64 2)] ⟨rfl, rfl, trivial⟩ (fun J => ?_)
    refine c_ret ?_
    refine k_then_ret ?_
    refine r_ret (r_two (.int .i64 0) (.int .i64 2) rfl rfl ?_)
    have hx := some_inj h
    subst hx
    exact ⟨rfl, hev⟩
  · replace h := ite_f hb h
    refine x_pure 3 [(7, .int .i64 k_0), (8, .bool (decide (k_0 ≥ 4096))), (9, .bool (decide (k_0 ≥ 4096)))] _ _ _ (by kernel_rfl) ?_
    refine x_end rfl ?_
    refine k_then ?_
    refine c_norm [(0, .int .i64 k_0), (9, .bool (decide (k_0 ≥ 4096)))] ⟨rfl, rfl, trivial⟩ (fun J => ?_)
    refine c_cond (decide (k_0 ≥ 4096)) rfl (fun hb => ?_) (fun hb => ?_)
    · replace h := ite_t hb h
      refine c_seq ?_
      refine c_plain ?_
      refine x_pure 2 [(2, .int .i64 0), (3, .int .i64 2)] _ _ _ (by kernel_rfl) ?_
      refine x_end rfl ?_
      refine k_then ?_
      refine c_norm [(2, .int .i64 0), (3, .int .i64 2)] ⟨rfl, rfl, trivial⟩ (fun J => ?_)
      refine c_ret ?_
      refine k_then_ret ?_
      refine r_ret (r_two (.int .i64 0) (.int .i64 2) rfl rfl ?_)
      have hx := some_inj h
      subst hx
      exact ⟨rfl, hev⟩
    · replace h := ite_f hb h
      refine c_skip ?_
      refine k_then ?_
      refine c_norm [(0, .int .i64 k_0)] ⟨rfl, trivial⟩ (fun J => ?_)
      refine c_seq ?_
      refine c_plain ?_
      refine x_pure 1 [(10, .int .i64 k_0)] _ _ _ (by kernel_rfl) ?_
      obtain ⟨x1, hx, h⟩ := bind_some h
      have hcall := r12_Long_w k_0 _ w hx
      refine x_call 37 #[] #[] [.int .i64 k_0] _ rfl rfl rfl rfl hcall ?_
      rintro v w2 ⟨rfl, he2⟩
      clear hcall hx
      refine ⟨.inl rfl, ?_⟩
      replace hms := hms.ev he2
      replace hev := hev.ext he2
      refine x_pure 2 [(2, .int .i64 x1), (3, .int .i64 0)] _ _ _ (by kernel_rfl) ?_
      refine x_end rfl ?_
      refine k_then ?_
      refine c_norm [(2, .int .i64 x1), (3, .int .i64 0)] ⟨rfl, rfl, trivial⟩ (fun J => ?_)
      refine c_ret ?_
      refine r_ret (r_two (.int .i64 x1) (.int .i64 0) rfl rfl ?_)
      have hx := some_inj h
      subst hx
      exact ⟨rfl, hev⟩
def r12_Real_L3 (k_0 : Int) (s : Int × (List Int)) : Option (Step (Int × (List Int)) (List Int)) :=
match s with
| (b_s7, d2g3) =>
(if (decide (b_s7 < 12)) = true then
(if 0 ≤ b_s7 then
(if ((IntKind.i64.wrap ↑(BitVec.ofInt IntKind.i64.bits (Int.fdiv k_0 (2 ^ (min (Int.toNat (b_s7)) IntKind.i64.bits))) &&& BitVec.ofInt IntKind.i64.bits 1).toNat) == 1) = true then
(if d2g3.length + ([b_s7]).length ≤ 4294967296 then
some (.next (IntKind.i64.wrap (b_s7 + 1), (d2g3 ++ [b_s7])))
else none)
else
some (.next (IntKind.i64.wrap (b_s7 + 1), d2g3)))
else none)
else
some (.done d2g3))

def r12_Real (k_0 : Int) (round_1 : Int) : Option ((List Int) × Int) :=
(if (decide (round_1 < 0)) = true then
some ([], 2)
else
(if (decide (round_1 ≥ 13)) = true then
some ([], 2)
else
(if (decide (k_0 < 0)) = true then
some ([], 2)
else
(if (decide (k_0 ≥ 4096)) = true then
some ([], 2)
else
(if 0 ≤ round_1 then
(if IntKind.i64.wrap (1 * 2 ^ (min (Int.toNat (round_1)) IntKind.i64.bits)) ≠ 0 then
(if 0 ≤ round_1 then
(if ((Int.tmod k_0 (IntKind.i64.wrap (1 * 2 ^ (min (Int.toNat (round_1)) IntKind.i64.bits)))) != (IntKind.i64.wrap ((IntKind.i64.wrap (1 * 2 ^ (min (Int.toNat (round_1)) IntKind.i64.bits))) - 1))) = true then
some ([], 15)
else
((loop (r12_Real_L3 k_0) (round_1, ([] : List Int))).bind fun d => match d with
| d2x => some (d2x, 0)))
else none)
else none)
else none)))))

theorem r12_Real_w (k_0 : Int) (round_1 : Int) (r : (List Int) × Int) (w : World) (M : List Nat) (hms : MS w [M]) (h : r12_Real k_0 round_1 = some r) : CallVC Try.prog 33 [.int .i64 k_0, .int .i64 round_1] w fun v w' => ∃ (a0' : Option Addr), ∃ (c0' : Nat), v = .tuple #[.slice a0' (r.1).length c0', .int .i64 r.2] ∧ Ev [] w w' ∧ MS w' [blk a0', M] ∧ FR w.heap.size [blk a0'] ∧ OwnS (eInt .i64) 3 w' (fl [blk a0', M]) a0' c0' r.1 := by
  refine calls_vc hmx Try.func33 (by kernel_rfl) rfl (rs := [.tmp 4, .tmp 5]) rfl (by kernel_rfl) (args := [.int .i64 k_0, .int .i64 round_1]) rfl ?_
  have hev : Ev [] w w := Ev.refl _ _
  have hfr : FR w.heap.size [] := FR.nil _
  refine c_seq ?_
  refine c_plain ?_
  refine x_pure 2 [(4, .slice none 0 0), (5, .int .i64 0)] _ _ _ (by kernel_rfl) ?_
  refine x_end rfl ?_
  refine k_then ?_
  refine c_norm [(0, .int .i64 k_0), (1, .int .i64 round_1)] ⟨rfl, rfl, trivial⟩ (fun J => ?_)
  refine c_seq ?_
  refine c_seq ?_
  refine c_plain ?_
  refine x_pure 3 [(8, .int .i64 round_1), (9, .bool (decide (round_1 < 0))), (10, .bool (decide (round_1 < 0)))] _ _ _ (by kernel_rfl) ?_
  refine x_split 10 (decide (round_1 < 0)) rfl (fun hb => ?_) (fun hb => ?_)
  · replace h := ite_t hb h
    refine x_pure 11 [(11, undef), (12, undef), (13, .bool true), (14, .bool true), (15, undef), (16, undef), (17, .bool true), (18, .bool true), (19, undef), (20, undef), (21, .bool true)] _ _ _ (by kernel_rfl) ?_
    refine x_end rfl ?_
    refine k_then ?_
    refine c_norm [(0, .int .i64 k_0), (1, .int .i64 round_1), (21, .bool true)] ⟨rfl, rfl, rfl, trivial⟩ (fun J => ?_)
    refine c_true rfl ?_
    refine c_seq ?_
    refine c_plain ?_
    refine x_pure 2 [(4, .slice none 0 0), (5, .int .i64 2)] _ _ _ (by kernel_rfl) ?_
    refine x_end rfl ?_
    refine k_then ?_
    refine c_norm [(4, .slice none 0 0), (5, .int .i64 2)] ⟨rfl, rfl, trivial⟩ (fun J => ?_)
    refine c_ret ?_
    refine k_then_ret ?_
    refine r_ret (r_two (.slice none 0 0) (.int .i64 2) rfl rfl ?_)
    have hx := some_inj h
    subst hx
    have hmr : MS w [blk none, M] := hms.pick [none, some 0] _ rfl
    have hfe : FR w.heap.size [blk none] := hfr.pick [none] _ rfl
    have hsu : ∀ x ∈ fl [blk none, M], x ∈ fl [M] := pick_sub [none, some 0] _ rfl
    exact ⟨none, 0, rfl, hev, hmr, hfe, OwnS.nil _ _ _ _⟩
  · replace h := ite_f hb h
    refine x_pure 4 [(11, .int .i64 round_1), (12, .bool (decide (round_1 ≥ 13))), (13, .bool (decide (round_1 ≥ 13))), (14, .bool (decide (round_1 ≥ 13)))] _ _ _ (by kernel_rfl) ?_
    refine x_split 14 (decide (round_1 ≥ 13)) rfl (fun hb => ?_) (fun hb => ?_)
    · replace h := ite_t hb h
      refine x_pure 7 [(15, undef), (16, undef), (17, .bool true), (18, .bool true), (19, undef), (20, undef), (21, .bool true)] _ _ _ (by kernel_rfl) ?_
      refine x_end rfl ?_
      refine k_then ?_
      refine c_norm [(0, .int .i64 k_0), (1, .int .i64 round_1), (21, .bool true)] ⟨rfl, rfl, rfl, trivial⟩ (fun J => ?_)
      refine c_true rfl ?_
      refine c_seq ?_
      refine c_plain ?_
      refine x_pure 2 [(4, .slice none 0 0), (5, .int .i64 2)] _ _ _ (by kernel_rfl) ?_
      refine x_end rfl ?_
      refine k_then ?_
      refine c_norm [(4, .slice none 0 0), (5, .int .i64 2)] ⟨rfl, rfl, trivial⟩ (fun J => ?_)
      refine c_ret ?_
      refine k_then_ret ?_
      refine r_ret (r_two (.slice none 0 0) (.int .i64 2) rfl rfl ?_)
      have hx := some_inj h
      subst hx
      have hmr : MS w [blk none, M] := hms.pick [none, some 0] _ rfl
      have hfe : FR w.heap.size [blk none] := hfr.pick [none] _ rfl
      have hsu : ∀ x ∈ fl [blk none, M], x ∈ fl [M] := pick_sub [none, some 0] _ rfl
      exact ⟨none, 0, rfl, hev, hmr, hfe, OwnS.nil _ _ _ _⟩
    · replace h := ite_f hb h
      refine x_pure 4 [(15, .int .i64 k_0), (16, .bool (decide (k_0 < 0))), (17, .bool (decide (k_0 < 0))), (18, .bool (decide (k_0 < 0)))] _ _ _ (by kernel_rfl) ?_
      refine x_split 18 (decide (k_0 < 0)) rfl (fun hb => ?_) (fun hb => ?_)
      · replace h := ite_t hb h
        refine x_pure 3 [(19, undef), (20, undef), (21, .bool true)] _ _ _ (by kernel_rfl) ?_
        refine x_end rfl ?_
        refine k_then ?_
        refine c_norm [(0, .int .i64 k_0), (1, .int .i64 round_1), (21, .bool true)] ⟨rfl, rfl, rfl, trivial⟩ (fun J => ?_)
        refine c_true rfl ?_
        refine c_seq ?_
        refine c_plain ?_
        refine x_pure 2 [(4, .slice none 0 0), (5, .int .i64 2)] _ _ _ (by kernel_rfl) ?_
        refine x_end rfl ?_
        refine k_then ?_
        refine c_norm [(4, .slice none 0 0), (5, .int .i64 2)] ⟨rfl, rfl, trivial⟩ (fun J => ?_)
        refine c_ret ?_
        refine k_then_ret ?_
        refine r_ret (r_two (.slice none 0 0) (.int .i64 2) rfl rfl ?_)
        have hx := some_inj h
        subst hx
        have hmr : MS w [blk none, M] := hms.pick [none, some 0] _ rfl
        have hfe : FR w.heap.size [blk none] := hfr.pick [none] _ rfl
        have hsu : ∀ x ∈ fl [blk none, M], x ∈ fl [M] := pick_sub [none, some 0] _ rfl
        exact ⟨none, 0, rfl, hev, hmr, hfe, OwnS.nil _ _ _ _⟩
      · replace h := ite_f hb h
        refine x_pure 3 [(19, .int .i64 k_0), (20, .bool (decide (k_0 ≥ 4096))), (21, .bool (decide (k_0 ≥ 4096)))] _ _ _ (by kernel_rfl) ?_
        refine x_end rfl ?_
        refine k_then ?_
        refine c_norm [(0, .int .i64 k_0), (1, .int .i64 round_1), (21, .bool (decide (k_0 ≥ 4096)))] ⟨rfl, rfl, rfl, trivial⟩ (fun J => ?_)
        refine c_cond (decide (k_0 ≥ 4096)) rfl (fun hb => ?_) (fun hb => ?_)
        · replace h := ite_t hb h
          refine c_seq ?_
          refine c_plain ?_
          refine x_pure 2 [(4, .slice none 0 0), (5, .int .i64 2)] _ _ _ (by kernel_rfl) ?_
          refine x_end rfl ?_
          refine k_then ?_
          refine c_norm [(4, .slice none 0 0), (5, .int .i64 2)] ⟨rfl, rfl, trivial⟩ (fun J => ?_)
          refine c_ret ?_
          refine k_then_ret ?_
          refine r_ret (r_two (.slice none 0 0) (.int .i64 2) rfl rfl ?_)
          have hx := some_inj h
          subst hx
          have hmr : MS w [blk none, M] := hms.pick [none, some 0] _ rfl
          have hfe : FR w.heap.size [blk none] := hfr.pick [none] _ rfl
          have hsu : ∀ x ∈ fl [blk none, M], x ∈ fl [M] := pick_sub [none, some 0] _ rfl
          exact ⟨none, 0, rfl, hev, hmr, hfe, OwnS.nil _ _ _ _⟩
        · replace h := ite_f hb h
          refine c_skip ?_
          refine k_then ?_
          refine c_norm [(0, .int .i64 k_0), (1, .int .i64 round_1)] ⟨rfl, rfl, trivial⟩ (fun J => ?_)
          refine c_seq ?_
          refine c_seq ?_
          refine c_drawn [] [(0, false), (1, false), (2, false), (3, false), (4, false), (5, false), (6, false), (7, false)] _ (by kernel_rfl) rfl ?_
          replace hms := hms.ev (Ev.drew w)
          replace hev := hev.ext (Ev.drew w)
          refine x_pure 2 [(22, .int .i64 k_0), (23, .int .i64 round_1)] _ _ _ (by kernel_rfl) ?_
          refine x_binop (.int .i64 (IntKind.i64.wrap (1 * 2 ^ (min (Int.toNat (round_1)) IntKind.i64.bits)))) (.int .i64 1) (.int .i64 round_1) rfl rfl rfl rfl (vb_shl (guard_l h)) ?_
          replace h := guard_r h
          refine x_binop (.int .i64 (Int.tmod k_0 (IntKind.i64.wrap (1 * 2 ^ (min (Int.toNat (round_1)) IntKind.i64.bits))))) (.int .i64 k_0) (.int .i64 (IntKind.i64.wrap (1 * 2 ^ (min (Int.toNat (round_1)) IntKind.i64.bits)))) rfl rfl rfl rfl (vb_rem (guard_l h)) ?_
          replace h := guard_r h
          refine x_pure 1 [(26, .int .i64 round_1)] _ _ _ (by kernel_rfl) ?_
          refine x_binop (.int .i64 (IntKind.i64.wrap (1 * 2 ^ (min (Int.toNat (round_1)) IntKind.i64.bits)))) (.int .i64 1) (.int .i64 round_1) rfl rfl rfl rfl (vb_shl (guard_l h)) ?_
          replace h := guard_r h
          refine x_pure 2 [(28, .int .i64 (IntKind.i64.wrap ((IntKind.i64.wrap (1 * 2 ^ (min (Int.toNat (round_1)) IntKind.i64.bits))) - 1))), (29, .bool ((Int.tmod k_0 (IntKind.i64.wrap (1 * 2 ^ (min (Int.toNat (round_1)) IntKind.i64.bits)))) != (IntKind.i64.wrap ((IntKind.i64.wrap (1 * 2 ^ (min (Int.toNat (round_1)) IntKind.i64.bits))) - 1))))] _ _ _ (by kernel_rfl) ?_
          refine x_end rfl ?_
          refine k_then ?_
          refine c_norm [(0, .int .i64 k_0), (1, .int .i64 round_1), (29, .bool ((Int.tmod k_0 (IntKind.i64.wrap (1 * 2 ^ (min (Int.toNat (round_1)) IntKind.i64.bits)))) != (IntKind.i64.wrap ((IntKind.i64.wrap (1 * 2 ^ (min (Int.toNat (round_1)) IntKind.i64.bits))) - 1))))] ⟨rfl, rfl, rfl, trivial⟩ (fun J => ?_)
          refine c_cond ((Int.tmod k_0 (IntKind.i64.wrap (1 * 2 ^ (min (Int.toNat (round_1)) IntKind.i64.bits)))) != (IntKind.i64.wrap ((IntKind.i64.wrap (1 * 2 ^ (min (Int.toNat (round_1)) IntKind.i64.bits))) - 1))) rfl (fun hb => ?_) (fun hb => ?_)
          · replace h := ite_t hb h
            refine c_seq ?_
            refine c_plain ?_
            refine x_pure 2 [(4, .slice none 0 0), (5, .int .i64 15)] _ _ _ (by kernel_rfl) ?_
            refine x_end rfl ?_
            refine k_then ?_
            refine c_norm [(4, .slice none 0 0), (5, .int .i64 15)] ⟨rfl, rfl, trivial⟩ (fun J => ?_)
            refine c_ret ?_
            refine k_then_ret ?_
            refine r_ret (r_two (.slice none 0 0) (.int .i64 15) rfl rfl ?_)
            have hx := some_inj h
            subst hx
            have hmr : MS (w).drew [blk none, M] := hms.pick [none, some 0] _ rfl
            have hfe : FR w.heap.size [blk none] := hfr.pick [none] _ rfl
            have hsu : ∀ x ∈ fl [blk none, M], x ∈ fl [M] := pick_sub [none, some 0] _ rfl
            exact ⟨none, 0, rfl, hev, hmr, hfe, OwnS.nil _ _ _ _⟩
          · replace h := ite_f hb h
            refine c_skip ?_
            refine k_then ?_
            refine c_norm [(0, .int .i64 k_0), (1, .int .i64 round_1)] ⟨rfl, rfl, trivial⟩ (fun J => ?_)
            refine c_seq ?_
            refine c_plain ?_
            refine x_pure 1 [(6, .slice none 0 0)] _ _ _ (by kernel_rfl) ?_
            refine x_end rfl ?_
            refine k_then ?_
            refine c_norm [(0, .int .i64 k_0), (1, .int .i64 round_1), (6, .slice none 0 0)] ⟨rfl, rfl, rfl, trivial⟩ (fun J => ?_)
            refine c_seq ?_
            refine c_seq ?_
            refine c_plain ?_
            refine x_pure 2 [(30, .int .i64 round_1), (7, .int .i64 round_1)] _ _ _ (by kernel_rfl) ?_
            refine x_end rfl ?_
            refine k_then ?_
            refine c_norm [(0, .int .i64 k_0), (6, .slice none 0 0), (7, .int .i64 round_1)] ⟨rfl, rfl, rfl, trivial⟩ (fun J => ?_)
            refine c_block ?_
            replace hms := hms.push (l := blk none) (Ev.refl [] _) (fun _ h => by cases h)
            replace hfr := hfr.push (l := blk none) (fun _ h => by cases h)
            have ho1 := OwnS.nil (eInt .i64) 3 (w).drew (fl [blk none, M])
            obtain ⟨d3, hd3, h3⟩ := bind_some h
            obtain ⟨m3, hd3⟩ := loop_some hd3
            refine c_loop (loop_rule hmx (σ := Nat × Int × (List Int) × Option Addr × Nat) (fun s => match s with | (_, b_s7, d2g3, a2g3, c2g3) => [(0, .int .i64 k_0), (6, .slice a2g3 (d2g3).length c2g3), (7, .int .i64 b_s7)]) (fun s w' => match s with | (m, b_s7, d2g3, a2g3, c2g3) => loopN (r12_Real_L3 k_0) m (b_s7, d2g3) = some d3 ∧ Ev [] w w' ∧ MS w' [blk a2g3, M] ∧ FR w.heap.size [blk a2g3] ∧ OwnS (eInt .i64) 3 w' (fl [blk a2g3, M]) a2g3 c2g3 d2g3) (fun s => s.1) (m3, round_1, ([] : List Int), none, 0) ⟨rfl, rfl, rfl, trivial⟩ ⟨hd3, hev, hms, hfr, ho1⟩ ?_)
            rintro ⟨m3, b_s7, d2g3, a2g3, c2g3⟩ J w3 ⟨hn3, hev, hms, hfr, ho1⟩
            rcases m3 with _ | m3
            · exact (loopN_zero hn3).elim
            obtain ⟨t3, h, hn3⟩ := bind_some hn3
            refine c_seq ?_
            refine c_seq ?_
            refine c_plain ?_
            refine x_pure 2 [(31, .int .i64 b_s7), (32, .bool (decide (b_s7 < 12)))] _ _ _ (by kernel_rfl) ?_
            refine x_end rfl ?_
            refine k_then ?_
            refine c_norm [(0, .int .i64 k_0), (6, .slice a2g3 (d2g3).length c2g3), (7, .int .i64 b_s7), (32, .bool (decide (b_s7 < 12)))] ⟨rfl, rfl, rfl, rfl, trivial⟩ (fun J => ?_)
            refine c_cond (decide (b_s7 < 12)) rfl (fun hb => ?_) (fun hb => ?_)
            · replace h := ite_t hb h
              refine c_skip ?_
              refine k_then ?_
              refine c_norm [(0, .int .i64 k_0), (6, .slice a2g3 (d2g3).length c2g3), (7, .int .i64 b_s7)] ⟨rfl, rfl, rfl, trivial⟩ (fun J => ?_)
              refine c_seq ?_
              refine c_block ?_
              refine c_seq ?_
              refine c_plain ?_
              refine x_pure 2 [(35, .int .i64 k_0), (36, .int .i64 b_s7)] _ _ _ (by kernel_rfl) ?_
              refine x_binop (.int .i64 (Int.fdiv k_0 (2 ^ (min (Int.toNat (b_s7)) IntKind.i64.bits)))) (.int .i64 k_0) (.int .i64 b_s7) rfl rfl rfl rfl (vb_shr (guard_l h)) ?_
              replace h := guard_r h
              refine x_pure 2 [(38, .int .i64 (IntKind.i64.wrap ↑(BitVec.ofInt IntKind.i64.bits (Int.fdiv k_0 (2 ^ (min (Int.toNat (b_s7)) IntKind.i64.bits))) &&& BitVec.ofInt IntKind.i64.bits 1).toNat)), (39, .bool ((IntKind.i64.wrap ↑(BitVec.ofInt IntKind.i64.bits (Int.fdiv k_0 (2 ^ (min (Int.toNat (b_s7)) IntKind.i64.bits))) &&& BitVec.ofInt IntKind.i64.bits 1).toNat) == 1))] _ _ _ (by kernel_rfl) ?_
              refine x_end rfl ?_
              refine k_then ?_
              refine c_norm [(0, .int .i64 k_0), (6, .slice a2g3 (d2g3).length c2g3), (7, .int .i64 b_s7), (39, .bool ((IntKind.i64.wrap ↑(BitVec.ofInt IntKind.i64.bits (Int.fdiv k_0 (2 ^ (min (Int.toNat (b_s7)) IntKind.i64.bits))) &&& BitVec.ofInt IntKind.i64.bits 1).toNat) == 1))] ⟨rfl, rfl, rfl, rfl, trivial⟩ (fun J => ?_)
              refine c_cond ((IntKind.i64.wrap ↑(BitVec.ofInt IntKind.i64.bits (Int.fdiv k_0 (2 ^ (min (Int.toNat (b_s7)) IntKind.i64.bits))) &&& BitVec.ofInt IntKind.i64.bits 1).toNat) == 1) rfl (fun hb => ?_) (fun hb => ?_)
              · replace h := ite_t hb h
                refine c_plain ?_
                refine x_pure 2 [(40, .slice a2g3 (d2g3).length c2g3), (41, .int .i64 b_s7)] _ _ _ (by kernel_rfl) ?_
                refine x_buildSlice (vs := [(0, .int .i64 b_s7)]) #[.int .i64 b_s7] 3 rfl rfl rfl (by kernel_rfl) (fun b4 w4 hq4 hb4 he4 _ => ?_)
                refine ⟨.inl rfl, ?_⟩
                have hs4 : SlR (eInt .i64) w4 (fl [blk a2g3, M]) (some ⟨b4, 0, none⟩) 1 ([b_s7]) := ro_of_box hms hq4 hb4 rfl rfl (vals_at (Value.int .i64) rfl (fun _ _ _ => rfl) _ _ _)
                clear hb4
                have hst := Stp.ext (ls := [blk a2g3, M]) he4
                replace ho1 := ho1.step hst he4 (fun _ _ h => by cases h)
                replace hms := hms.ev he4
                replace hev := hev.ext he4
                have hg := guard_l h
                replace h := guard_r h
                obtain ⟨a6, c6, w6, hr6, he6, hn6, hw6⟩ := own_append tel22 22 ho1 (mem_flat 0 rfl) hs4 hg
                refine x_builtin (vs := [.slice a2g3 (d2g3).length c2g3, .slice (some ⟨b4, 0, none⟩) ([b_s7]).length 1]) _ w6 rfl rfl rfl rfl (run_value _ _ _ _ hr6) ?_
                refine ⟨.inl rfl, ?_⟩
                have hst : Stp (fl [blk a2g3, M]) w4 (fl [blk a6, M]) w6 := Stp.upd 0 he6 rfl (fun b hb => (hn6 b hb).1)
                replace hs4 := hs4.step hst
                replace hms : MS w6 [blk a6, M] := hms.upd 0 he6 rfl hn6
                have hfr2 : FR w.heap.size [blk a6] := hfr.upd 0 rfl hev.size (fun b hb => (hn6 b hb).1)
                replace hev := hev.then he6 (fun b hb => .inr (hfr.at 0 rfl b hb))
                replace hfr := hfr2
                clear hfr2
                replace ho1 := hw6 (fl [blk a6, M]) hst.new
                clear hw6
                refine x_pure 1 [(6, .slice a6 ((d2g3 ++ [b_s7])).length c6)] _ _ _ (by kernel_rfl) ?_
                refine x_end rfl ?_
                refine k_block ?_
                refine k_then ?_
                refine c_norm [(0, .int .i64 k_0), (6, .slice a6 ((d2g3 ++ [b_s7])).length c6), (7, .int .i64 b_s7)] ⟨rfl, rfl, rfl, trivial⟩ (fun J => ?_)
                refine c_plain ?_
                refine x_pure 3 [(33, .int .i64 b_s7), (34, .int .i64 (IntKind.i64.wrap (b_s7 + 1))), (7, .int .i64 (IntKind.i64.wrap (b_s7 + 1)))] _ _ _ (by kernel_rfl) ?_
                refine x_end rfl ?_
                have hx := some_inj h
                subst hx
                exact k_then ⟨(m3, IntKind.i64.wrap (b_s7 + 1), (d2g3 ++ [b_s7]), a6, c6), ⟨rfl, rfl, rfl, trivial⟩, ⟨hn3, hev, hms, hfr, ho1⟩, Nat.lt_succ_self _⟩
              · replace h := ite_f hb h
                refine c_skip ?_
                refine k_block ?_
                refine k_then ?_
                refine c_norm [(0, .int .i64 k_0), (6, .slice a2g3 (d2g3).length c2g3), (7, .int .i64 b_s7)] ⟨rfl, rfl, rfl, trivial⟩ (fun J => ?_)
                refine c_plain ?_
                refine x_pure 3 [(33, .int .i64 b_s7), (34, .int .i64 (IntKind.i64.wrap (b_s7 + 1))), (7, .int .i64 (IntKind.i64.wrap (b_s7 + 1)))] _ _ _ (by kernel_rfl) ?_
                refine x_end rfl ?_
                have hx := some_inj h
                subst hx
                exact k_then ⟨(m3, IntKind.i64.wrap (b_s7 + 1), d2g3, a2g3, c2g3), ⟨rfl, rfl, rfl, trivial⟩, ⟨hn3, hev, hms, hfr, ho1⟩, Nat.lt_succ_self _⟩
            · replace h := ite_f hb h
              refine c_exit ?_
              refine k_then_exit ?_
              have hx := some_inj h
              subst hx
              have hy := some_inj hn3
              subst hy
              replace h := h3
              refine k_then_exit ?_
              refine k_block_in ?_
              refine k_then ?_
              refine c_norm [(6, .slice a2g3 (d2g3).length c2g3)] ⟨rfl, trivial⟩ (fun J => ?_)
              refine c_seq ?_
              refine c_plain ?_
              refine x_pure 3 [(44, .slice a2g3 (d2g3).length c2g3), (4, .slice a2g3 (d2g3).length c2g3), (5, .int .i64 0)] _ _ _ (by kernel_rfl) ?_
              refine x_end rfl ?_
              refine k_then ?_
              refine c_norm [(4, .slice a2g3 (d2g3).length c2g3), (5, .int .i64 0)] ⟨rfl, rfl, trivial⟩ (fun J => ?_)
              refine c_ret ?_
              refine r_ret (r_two (.slice a2g3 (d2g3).length c2g3) (.int .i64 0) rfl rfl ?_)
              have hx := some_inj h
              subst hx
              have hmr : MS w3 [blk a2g3, M] := hms.pick [some 0, some 1] _ rfl
              have hfe : FR w.heap.size [blk a2g3] := hfr.pick [some 0] _ rfl
              have hsu : ∀ x ∈ fl [blk a2g3, M], x ∈ fl [blk a2g3, M] := pick_sub [some 0, some 1] _ rfl
              exact ⟨a2g3, c2g3, rfl, hev, hmr, hfe, ho1.sub hsu⟩
end Go.Proofs.Ytjcikgeffhghkaa
