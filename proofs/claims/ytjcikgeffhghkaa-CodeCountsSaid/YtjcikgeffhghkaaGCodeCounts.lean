/- Walks, printed by program: each function returns what the partial function of the same name returns. Conditions: those of each theorem. -/
import Derived.Test.YtjcikgeffhghkaaGT
import Derived.Test.YtjcikgeffhghkaaGcode
import Derived.Test.YtjcikgeffhghkaaGlaw12
set_option linter.unusedVariables false
set_option maxRecDepth 4000
namespace Go.Proofs.Ytjcikgeffhghkaa
open Go Go.V Go.Proofs
def law12_CodeCounts_L1 (v_h_0 : Int) (weight_1 : Int) (s : Int × Int × Int) : Option (Step (Int × Int × Int) Int) :=
match s with
| (want_s5, b_s6, i_s7) =>
(if (decide (i_s7 ≤ (Int.tmod (IntKind.i64.wrap ((Int.tmod weight_1 13) + 13)) 13))) = true then
(if (decide (i_s7 ≤ (Int.tmod (IntKind.i64.wrap ((Int.tmod v_h_0 13) + 13)) 13))) = true then
(if IntKind.i64.wrap (i_s7 + 1) ≠ 0 then
some (.next (IntKind.i64.wrap (want_s5 + b_s6), IntKind.i64.wrap (Int.tdiv (IntKind.i64.wrap (b_s6 * (IntKind.i64.wrap ((Int.tmod (IntKind.i64.wrap ((Int.tmod v_h_0 13) + 13)) 13) - i_s7)))) (IntKind.i64.wrap (i_s7 + 1))), IntKind.i64.wrap (i_s7 + 1)))
else none)
else
some (.done want_s5))
else
some (.done want_s5))

def law12_CodeCounts (v_h_0 : Int) (weight_1 : Int) : Option Bool :=
((loop (law12_CodeCounts_L1 v_h_0 weight_1) (0, 1, 0)).bind fun d => match d with
| want_x5 => ((code_Count (Int.tmod (IntKind.i64.wrap ((Int.tmod v_h_0 13) + 13)) 13) 0 (Int.tmod (IntKind.i64.wrap ((Int.tmod weight_1 13) + 13)) 13)).bind fun x2 =>
(if (x2.2 != 0) = true then
some false
else
(if (x2.1 != want_x5) = true then
some false
else
(if (decide ((Int.tmod (IntKind.i64.wrap ((Int.tmod v_h_0 13) + 13)) 13) < 12)) = true then
(if (decide ((Int.tmod (IntKind.i64.wrap ((Int.tmod weight_1 13) + 13)) 13) > 0)) = true then
(if 0 ≤ Int.tmod (IntKind.i64.wrap ((Int.tmod v_h_0 13) + 13)) 13 then
((code_Next (IntKind.i64.wrap (1 * 2 ^ (min (Int.toNat ((Int.tmod (IntKind.i64.wrap ((Int.tmod v_h_0 13) + 13)) 13))) IntKind.i64.bits))) 0 (Int.tmod (IntKind.i64.wrap ((Int.tmod weight_1 13) + 13)) 13)).bind fun x4 =>
((code_Rank x4.1 0 (Int.tmod (IntKind.i64.wrap ((Int.tmod weight_1 13) + 13)) 13)).bind fun x6 =>
(if (x4.2 != 0) = true then
some false
else
(if (x6.2 != 0) = true then
some false
else
(if (x6.1 != x2.1) = true then
some false
else
(if 0 ≤ Int.tmod (IntKind.i64.wrap ((Int.tmod v_h_0 13) + 13)) 13 then
(if (x4.1 != (IntKind.i64.wrap (1 * 2 ^ (min (Int.toNat ((Int.tmod (IntKind.i64.wrap ((Int.tmod v_h_0 13) + 13)) 13))) IntKind.i64.bits)))) = true then
some false
else
((law12_sane).bind fun x8 =>
some x8))
else none))))))
else none)
else
((law12_sane).bind fun x10 =>
some x10))
else
((law12_sane).bind fun x12 =>
some x12))))))

theorem law12_CodeCounts_w (v_h_0 : Int) (weight_1 : Int) (r : Bool) (w : World) (h : law12_CodeCounts v_h_0 weight_1 = some r) : CallVC Try.prog 5 [.int .i64 v_h_0, .int .i64 weight_1] w fun v w' => v = .bool r ∧ Ev [] w w' := by
  refine calls_vc hmx Try.func5 (by kernel_rfl) rfl (rs := [.tmp 4]) rfl (by kernel_rfl) (args := [.int .i64 v_h_0, .int .i64 weight_1]) rfl ?_
  have hev : Ev [] w w := Ev.refl _ _
  have hms : MS w [[]] := ⟨List.pairwise_singleton _ _, fun l hl b hb => by simp only [List.mem_singleton] at hl; subst hl; cases hb⟩
  have hfr : FR w.heap.size [] := FR.nil _
  refine c_seq ?_
  refine c_plain ?_
  refine x_pure 1 [(4, .bool false)] _ _ _ (by kernel_rfl) ?_
  refine x_end rfl ?_
  refine k_then ?_
  refine c_norm [(0, .int .i64 v_h_0), (1, .int .i64 weight_1)] ⟨rfl, rfl, trivial⟩ (fun J => ?_)
  refine c_seq ?_
  refine c_plain ?_
  refine x_pure 10 [(14, .int .i64 v_h_0), (15, .int .i64 (Int.tmod v_h_0 13)), (16, .int .i64 (IntKind.i64.wrap ((Int.tmod v_h_0 13) + 13))), (17, .int .i64 (Int.tmod (IntKind.i64.wrap ((Int.tmod v_h_0 13) + 13)) 13)), (18, .int .i64 weight_1), (19, .int .i64 (Int.tmod weight_1 13)), (20, .int .i64 (IntKind.i64.wrap ((Int.tmod weight_1 13) + 13))), (21, .int .i64 (Int.tmod (IntKind.i64.wrap ((Int.tmod weight_1 13) + 13)) 13)), (0, .int .i64 (Int.tmod (IntKind.i64.wrap ((Int.tmod v_h_0 13) + 13)) 13)), (1, .int .i64 (Int.tmod (IntKind.i64.wrap ((Int.tmod weight_1 13) + 13)) 13))] _ _ _ (by kernel_rfl) ?_
  refine x_end rfl ?_
  refine k_then ?_
  refine c_norm [(0, .int .i64 (Int.tmod (IntKind.i64.wrap ((Int.tmod v_h_0 13) + 13)) 13)), (1, .int .i64 (Int.tmod (IntKind.i64.wrap ((Int.tmod weight_1 13) + 13)) 13))] ⟨rfl, rfl, trivial⟩ (fun J => ?_)
  refine c_seq ?_
  refine c_plain ?_
  refine x_pure 2 [(5, .int .i64 0), (6, .int .i64 1)] _ _ _ (by kernel_rfl) ?_
  refine x_end rfl ?_
  refine k_then ?_
  refine c_norm [(0, .int .i64 (Int.tmod (IntKind.i64.wrap ((Int.tmod v_h_0 13) + 13)) 13)), (1, .int .i64 (Int.tmod (IntKind.i64.wrap ((Int.tmod weight_1 13) + 13)) 13)), (5, .int .i64 0), (6, .int .i64 1)] ⟨rfl, rfl, rfl, rfl, trivial⟩ (fun J => ?_)
  refine c_seq ?_
  refine c_seq ?_
  refine c_plain ?_
  refine x_pure 1 [(7, .int .i64 0)] _ _ _ (by kernel_rfl) ?_
  refine x_end rfl ?_
  refine k_then ?_
  refine c_norm [(0, .int .i64 (Int.tmod (IntKind.i64.wrap ((Int.tmod v_h_0 13) + 13)) 13)), (1, .int .i64 (Int.tmod (IntKind.i64.wrap ((Int.tmod weight_1 13) + 13)) 13)), (5, .int .i64 0), (6, .int .i64 1), (7, .int .i64 0)] ⟨rfl, rfl, rfl, rfl, rfl, trivial⟩ (fun J => ?_)
  refine c_block ?_
  obtain ⟨d1, hd1, h1⟩ := bind_some h
  obtain ⟨m1, hd1⟩ := loop_some hd1
  refine c_loop (loop_rule hmx (σ := Nat × Int × Int × Int) (fun s => match s with | (_, want_s5, b_s6, i_s7) => [(0, .int .i64 (Int.tmod (IntKind.i64.wrap ((Int.tmod v_h_0 13) + 13)) 13)), (1, .int .i64 (Int.tmod (IntKind.i64.wrap ((Int.tmod weight_1 13) + 13)) 13)), (5, .int .i64 want_s5), (6, .int .i64 b_s6), (7, .int .i64 i_s7)]) (fun s w' => match s with | (m, want_s5, b_s6, i_s7) => loopN (law12_CodeCounts_L1 v_h_0 weight_1) m (want_s5, b_s6, i_s7) = some d1 ∧ Ev [] w w' ∧ MS w' [[]] ∧ FR w.heap.size []) (fun s => s.1) (m1, 0, 1, 0) ⟨rfl, rfl, rfl, rfl, rfl, trivial⟩ ⟨hd1, hev, hms, hfr⟩ ?_)
  rintro ⟨m1, want_s5, b_s6, i_s7⟩ J w1 ⟨hn1, hev, hms, hfr⟩
  rcases m1 with _ | m1
  · exact (loopN_zero hn1).elim
  obtain ⟨t1, h, hn1⟩ := bind_some hn1
  refine c_seq ?_
  refine c_seq ?_
  refine c_plain ?_
  refine x_pure 4 [(22, .int .i64 i_s7), (23, .int .i64 (Int.tmod (IntKind.i64.wrap ((Int.tmod weight_1 13) + 13)) 13)), (24, .bool (decide (i_s7 ≤ (Int.tmod (IntKind.i64.wrap ((Int.tmod weight_1 13) + 13)) 13)))), (25, .bool (decide (i_s7 ≤ (Int.tmod (IntKind.i64.wrap ((Int.tmod weight_1 13) + 13)) 13))))] _ _ _ (by kernel_rfl) ?_
  refine x_split 25 (decide (i_s7 ≤ (Int.tmod (IntKind.i64.wrap ((Int.tmod weight_1 13) + 13)) 13))) rfl (fun hb => ?_) (fun hb => ?_)
  · replace h := ite_t hb h
    refine x_pure 4 [(26, .int .i64 i_s7), (27, .int .i64 (Int.tmod (IntKind.i64.wrap ((Int.tmod v_h_0 13) + 13)) 13)), (28, .bool (decide (i_s7 ≤ (Int.tmod (IntKind.i64.wrap ((Int.tmod v_h_0 13) + 13)) 13)))), (29, .bool (decide (i_s7 ≤ (Int.tmod (IntKind.i64.wrap ((Int.tmod v_h_0 13) + 13)) 13))))] _ _ _ (by kernel_rfl) ?_
    refine x_end rfl ?_
    refine k_then ?_
    refine c_norm [(0, .int .i64 (Int.tmod (IntKind.i64.wrap ((Int.tmod v_h_0 13) + 13)) 13)), (1, .int .i64 (Int.tmod (IntKind.i64.wrap ((Int.tmod weight_1 13) + 13)) 13)), (5, .int .i64 want_s5), (6, .int .i64 b_s6), (7, .int .i64 i_s7), (29, .bool (decide (i_s7 ≤ (Int.tmod (IntKind.i64.wrap ((Int.tmod v_h_0 13) + 13)) 13))))] ⟨rfl, rfl, rfl, rfl, rfl, rfl, trivial⟩ (fun J => ?_)
    refine c_cond (decide (i_s7 ≤ (Int.tmod (IntKind.i64.wrap ((Int.tmod v_h_0 13) + 13)) 13))) rfl (fun hb => ?_) (fun hb => ?_)
    · replace h := ite_t hb h
      refine c_skip ?_
      refine k_then ?_
      refine c_norm [(0, .int .i64 (Int.tmod (IntKind.i64.wrap ((Int.tmod v_h_0 13) + 13)) 13)), (1, .int .i64 (Int.tmod (IntKind.i64.wrap ((Int.tmod weight_1 13) + 13)) 13)), (5, .int .i64 want_s5), (6, .int .i64 b_s6), (7, .int .i64 i_s7)] ⟨rfl, rfl, rfl, rfl, rfl, trivial⟩ (fun J => ?_)
      refine c_seq ?_
      refine c_block ?_
      refine c_seq ?_
      refine c_plain ?_
      refine x_pure 4 [(32, .int .i64 want_s5), (33, .int .i64 b_s6), (34, .int .i64 (IntKind.i64.wrap (want_s5 + b_s6))), (5, .int .i64 (IntKind.i64.wrap (want_s5 + b_s6)))] _ _ _ (by kernel_rfl) ?_
      refine x_end rfl ?_
      refine k_then ?_
      refine c_norm [(0, .int .i64 (Int.tmod (IntKind.i64.wrap ((Int.tmod v_h_0 13) + 13)) 13)), (1, .int .i64 (Int.tmod (IntKind.i64.wrap ((Int.tmod weight_1 13) + 13)) 13)), (5, .int .i64 (IntKind.i64.wrap (want_s5 + b_s6))), (6, .int .i64 b_s6), (7, .int .i64 i_s7)] ⟨rfl, rfl, rfl, rfl, rfl, trivial⟩ (fun J => ?_)
      refine c_plain ?_
      refine x_pure 7 [(35, .int .i64 b_s6), (36, .int .i64 (Int.tmod (IntKind.i64.wrap ((Int.tmod v_h_0 13) + 13)) 13)), (37, .int .i64 i_s7), (38, .int .i64 (IntKind.i64.wrap ((Int.tmod (IntKind.i64.wrap ((Int.tmod v_h_0 13) + 13)) 13) - i_s7))), (39, .int .i64 (IntKind.i64.wrap (b_s6 * (IntKind.i64.wrap ((Int.tmod (IntKind.i64.wrap ((Int.tmod v_h_0 13) + 13)) 13) - i_s7))))), (40, .int .i64 i_s7), (41, .int .i64 (IntKind.i64.wrap (i_s7 + 1)))] _ _ _ (by kernel_rfl) ?_
      refine x_binop (.int .i64 (IntKind.i64.wrap (Int.tdiv (IntKind.i64.wrap (b_s6 * (IntKind.i64.wrap ((Int.tmod (IntKind.i64.wrap ((Int.tmod v_h_0 13) + 13)) 13) - i_s7)))) (IntKind.i64.wrap (i_s7 + 1))))) (.int .i64 (IntKind.i64.wrap (b_s6 * (IntKind.i64.wrap ((Int.tmod (IntKind.i64.wrap ((Int.tmod v_h_0 13) + 13)) 13) - i_s7))))) (.int .i64 (IntKind.i64.wrap (i_s7 + 1))) rfl rfl rfl rfl (vb_quo (guard_l h)) ?_
      replace h := guard_r h
      refine x_pure 1 [(6, .int .i64 (IntKind.i64.wrap (Int.tdiv (IntKind.i64.wrap (b_s6 * (IntKind.i64.wrap ((Int.tmod (IntKind.i64.wrap ((Int.tmod v_h_0 13) + 13)) 13) - i_s7)))) (IntKind.i64.wrap (i_s7 + 1)))))] _ _ _ (by kernel_rfl) ?_
      refine x_end rfl ?_
      refine k_block ?_
      refine k_then ?_
      refine c_norm [(0, .int .i64 (Int.tmod (IntKind.i64.wrap ((Int.tmod v_h_0 13) + 13)) 13)), (1, .int .i64 (Int.tmod (IntKind.i64.wrap ((Int.tmod weight_1 13) + 13)) 13)), (5, .int .i64 (IntKind.i64.wrap (want_s5 + b_s6))), (6, .int .i64 (IntKind.i64.wrap (Int.tdiv (IntKind.i64.wrap (b_s6 * (IntKind.i64.wrap ((Int.tmod (IntKind.i64.wrap ((Int.tmod v_h_0 13) + 13)) 13) - i_s7)))) (IntKind.i64.wrap (i_s7 + 1))))), (7, .int .i64 i_s7)] ⟨rfl, rfl, rfl, rfl, rfl, trivial⟩ (fun J => ?_)
      refine c_plain ?_
      refine x_pure 3 [(30, .int .i64 i_s7), (31, .int .i64 (IntKind.i64.wrap (i_s7 + 1))), (7, .int .i64 (IntKind.i64.wrap (i_s7 + 1)))] _ _ _ (by kernel_rfl) ?_
      refine x_end rfl ?_
      have hx := some_inj h
      subst hx
      exact k_then ⟨(m1, IntKind.i64.wrap (want_s5 + b_s6), IntKind.i64.wrap (Int.tdiv (IntKind.i64.wrap (b_s6 * (IntKind.i64.wrap ((Int.tmod (IntKind.i64.wrap ((Int.tmod v_h_0 13) + 13)) 13) - i_s7)))) (IntKind.i64.wrap (i_s7 + 1))), IntKind.i64.wrap (i_s7 + 1)), ⟨rfl, rfl, rfl, rfl, rfl, trivial⟩, ⟨hn1, hev, hms, hfr⟩, Nat.lt_succ_self _⟩
    · replace h := ite_f hb h
      refine c_exit ?_
      refine k_then_exit ?_
      have hx := some_inj h
      subst hx
      have hy := some_inj hn1
      subst hy
      replace h := h1
      refine k_then_exit ?_
      refine k_block_in ?_
      refine k_then ?_
      refine c_norm [(0, .int .i64 (Int.tmod (IntKind.i64.wrap ((Int.tmod v_h_0 13) + 13)) 13)), (1, .int .i64 (Int.tmod (IntKind.i64.wrap ((Int.tmod weight_1 13) + 13)) 13)), (5, .int .i64 want_s5)] ⟨rfl, rfl, rfl, trivial⟩ (fun J => ?_)
      refine c_seq ?_
      refine c_plain ?_
      refine x_pure 2 [(44, .int .i64 (Int.tmod (IntKind.i64.wrap ((Int.tmod v_h_0 13) + 13)) 13)), (45, .int .i64 (Int.tmod (IntKind.i64.wrap ((Int.tmod weight_1 13) + 13)) 13))] _ _ _ (by kernel_rfl) ?_
      obtain ⟨x2, hx, h⟩ := bind_some h
      have hcall := code_Count_w (Int.tmod (IntKind.i64.wrap ((Int.tmod v_h_0 13) + 13)) 13) 0 (Int.tmod (IntKind.i64.wrap ((Int.tmod weight_1 13) + 13)) 13) _ w1 hx
      refine x_call 16 #[] #[] [.int .i64 (Int.tmod (IntKind.i64.wrap ((Int.tmod v_h_0 13) + 13)) 13), .int .i64 0, .int .i64 (Int.tmod (IntKind.i64.wrap ((Int.tmod weight_1 13) + 13)) 13)] _ rfl rfl rfl rfl hcall ?_
      rintro v w3 ⟨rfl, he3⟩
      clear hcall hx
      refine ⟨.inl rfl, ?_⟩
      replace hms := hms.ev he3
      replace hev := hev.ext he3
      refine x_pure 5 [(43, .tuple #[.int .i64 x2.1, .int .i64 x2.2]), (47, .int .i64 x2.1), (48, .int .i64 x2.2), (8, .int .i64 x2.1), (9, .int .i64 x2.2)] _ _ _ (by kernel_rfl) ?_
      refine x_end rfl ?_
      refine k_then ?_
      refine c_norm [(0, .int .i64 (Int.tmod (IntKind.i64.wrap ((Int.tmod v_h_0 13) + 13)) 13)), (1, .int .i64 (Int.tmod (IntKind.i64.wrap ((Int.tmod weight_1 13) + 13)) 13)), (5, .int .i64 want_s5), (8, .int .i64 x2.1), (9, .int .i64 x2.2)] ⟨rfl, rfl, rfl, rfl, rfl, trivial⟩ (fun J => ?_)
      refine c_seq ?_
      refine c_seq ?_
      refine c_plain ?_
      refine x_pure 3 [(49, .int .i64 x2.2), (50, .bool (x2.2 != 0)), (51, .bool (x2.2 != 0))] _ _ _ (by kernel_rfl) ?_
      refine x_split 51 (x2.2 != 0) rfl (fun hb => ?_) (fun hb => ?_)
      · replace h := ite_t hb h
        refine x_pure 4 [(52, undef), (53, undef), (54, undef), (55, .bool true)] _ _ _ (by kernel_rfl) ?_
        refine x_end rfl ?_
        refine k_then ?_
        refine c_norm [(0, .int .i64 (Int.tmod (IntKind.i64.wrap ((Int.tmod v_h_0 13) + 13)) 13)), (1, .int .i64 (Int.tmod (IntKind.i64.wrap ((Int.tmod weight_1 13) + 13)) 13)), (8, .int .i64 x2.1), (55, .bool true)] ⟨rfl, rfl, rfl, rfl, trivial⟩ (fun J => ?_)
        refine c_true rfl ?_
        refine c_seq ?_
        refine c_plain ?_
        refine x_pure 1 [(4, .bool false)] _ _ _ (by kernel_rfl) ?_
        refine x_end rfl ?_
        refine k_then ?_
        refine c_norm [(4, .bool false)] ⟨rfl, trivial⟩ (fun J => ?_)
        refine c_ret ?_
        refine k_then_ret ?_
        refine r_ret (r_one (.bool false) rfl ?_)
        have hx := some_inj h
        subst hx
        exact ⟨rfl, hev⟩
      · replace h := ite_f hb h
        refine x_pure 4 [(52, .int .i64 x2.1), (53, .int .i64 want_s5), (54, .bool (x2.1 != want_s5)), (55, .bool (x2.1 != want_s5))] _ _ _ (by kernel_rfl) ?_
        refine x_end rfl ?_
        refine k_then ?_
        refine c_norm [(0, .int .i64 (Int.tmod (IntKind.i64.wrap ((Int.tmod v_h_0 13) + 13)) 13)), (1, .int .i64 (Int.tmod (IntKind.i64.wrap ((Int.tmod weight_1 13) + 13)) 13)), (8, .int .i64 x2.1), (55, .bool (x2.1 != want_s5))] ⟨rfl, rfl, rfl, rfl, trivial⟩ (fun J => ?_)
        refine c_cond (x2.1 != want_s5) rfl (fun hb => ?_) (fun hb => ?_)
        · replace h := ite_t hb h
          refine c_seq ?_
          refine c_plain ?_
          refine x_pure 1 [(4, .bool false)] _ _ _ (by kernel_rfl) ?_
          refine x_end rfl ?_
          refine k_then ?_
          refine c_norm [(4, .bool false)] ⟨rfl, trivial⟩ (fun J => ?_)
          refine c_ret ?_
          refine k_then_ret ?_
          refine r_ret (r_one (.bool false) rfl ?_)
          have hx := some_inj h
          subst hx
          exact ⟨rfl, hev⟩
        · replace h := ite_f hb h
          refine c_skip ?_
          refine k_then ?_
          refine c_norm [(0, .int .i64 (Int.tmod (IntKind.i64.wrap ((Int.tmod v_h_0 13) + 13)) 13)), (1, .int .i64 (Int.tmod (IntKind.i64.wrap ((Int.tmod weight_1 13) + 13)) 13)), (8, .int .i64 x2.1)] ⟨rfl, rfl, rfl, trivial⟩ (fun J => ?_)
          refine c_seq ?_
          refine c_seq ?_
          refine c_plain ?_
          refine x_pure 3 [(56, .int .i64 (Int.tmod (IntKind.i64.wrap ((Int.tmod v_h_0 13) + 13)) 13)), (57, .bool (decide ((Int.tmod (IntKind.i64.wrap ((Int.tmod v_h_0 13) + 13)) 13) < 12))), (58, .bool (decide ((Int.tmod (IntKind.i64.wrap ((Int.tmod v_h_0 13) + 13)) 13) < 12)))] _ _ _ (by kernel_rfl) ?_
          refine x_split 58 (decide ((Int.tmod (IntKind.i64.wrap ((Int.tmod v_h_0 13) + 13)) 13) < 12)) rfl (fun hb => ?_) (fun hb => ?_)
          · replace h := ite_t hb h
            refine x_pure 3 [(59, .int .i64 (Int.tmod (IntKind.i64.wrap ((Int.tmod weight_1 13) + 13)) 13)), (60, .bool (decide ((Int.tmod (IntKind.i64.wrap ((Int.tmod weight_1 13) + 13)) 13) > 0))), (61, .bool (decide ((Int.tmod (IntKind.i64.wrap ((Int.tmod weight_1 13) + 13)) 13) > 0)))] _ _ _ (by kernel_rfl) ?_
            refine x_end rfl ?_
            refine k_then ?_
            refine c_norm [(0, .int .i64 (Int.tmod (IntKind.i64.wrap ((Int.tmod v_h_0 13) + 13)) 13)), (1, .int .i64 (Int.tmod (IntKind.i64.wrap ((Int.tmod weight_1 13) + 13)) 13)), (8, .int .i64 x2.1), (61, .bool (decide ((Int.tmod (IntKind.i64.wrap ((Int.tmod weight_1 13) + 13)) 13) > 0)))] ⟨rfl, rfl, rfl, rfl, trivial⟩ (fun J => ?_)
            refine c_cond (decide ((Int.tmod (IntKind.i64.wrap ((Int.tmod weight_1 13) + 13)) 13) > 0)) rfl (fun hb => ?_) (fun hb => ?_)
            · replace h := ite_t hb h
              refine c_seq ?_
              refine c_plain ?_
              refine x_pure 1 [(63, .int .i64 (Int.tmod (IntKind.i64.wrap ((Int.tmod v_h_0 13) + 13)) 13))] _ _ _ (by kernel_rfl) ?_
              refine x_binop (.int .i64 (IntKind.i64.wrap (1 * 2 ^ (min (Int.toNat ((Int.tmod (IntKind.i64.wrap ((Int.tmod v_h_0 13) + 13)) 13))) IntKind.i64.bits)))) (.int .i64 1) (.int .i64 (Int.tmod (IntKind.i64.wrap ((Int.tmod v_h_0 13) + 13)) 13)) rfl rfl rfl rfl (vb_shl (guard_l h)) ?_
              replace h := guard_r h
              refine x_pure 1 [(65, .int .i64 (Int.tmod (IntKind.i64.wrap ((Int.tmod weight_1 13) + 13)) 13))] _ _ _ (by kernel_rfl) ?_
              obtain ⟨x4, hx, h⟩ := bind_some h
              have hcall := code_Next_w (IntKind.i64.wrap (1 * 2 ^ (min (Int.toNat ((Int.tmod (IntKind.i64.wrap ((Int.tmod v_h_0 13) + 13)) 13))) IntKind.i64.bits))) 0 (Int.tmod (IntKind.i64.wrap ((Int.tmod weight_1 13) + 13)) 13) _ w3 hx
              refine x_call 12 #[] #[] [.int .i64 (IntKind.i64.wrap (1 * 2 ^ (min (Int.toNat ((Int.tmod (IntKind.i64.wrap ((Int.tmod v_h_0 13) + 13)) 13))) IntKind.i64.bits))), .int .i64 0, .int .i64 (Int.tmod (IntKind.i64.wrap ((Int.tmod weight_1 13) + 13)) 13)] _ rfl rfl rfl rfl hcall ?_
              rintro v w5 ⟨rfl, he5⟩
              clear hcall hx
              refine ⟨.inl rfl, ?_⟩
              replace hms := hms.ev he5
              replace hev := hev.ext he5
              refine x_pure 5 [(62, .tuple #[.int .i64 x4.1, .int .i64 x4.2]), (67, .int .i64 x4.1), (68, .int .i64 x4.2), (10, .int .i64 x4.1), (11, .int .i64 x4.2)] _ _ _ (by kernel_rfl) ?_
              refine x_end rfl ?_
              refine k_then ?_
              refine c_norm [(0, .int .i64 (Int.tmod (IntKind.i64.wrap ((Int.tmod v_h_0 13) + 13)) 13)), (1, .int .i64 (Int.tmod (IntKind.i64.wrap ((Int.tmod weight_1 13) + 13)) 13)), (8, .int .i64 x2.1), (10, .int .i64 x4.1), (11, .int .i64 x4.2)] ⟨rfl, rfl, rfl, rfl, rfl, trivial⟩ (fun J => ?_)
              refine c_seq ?_
              refine c_plain ?_
              refine x_pure 2 [(70, .int .i64 x4.1), (71, .int .i64 (Int.tmod (IntKind.i64.wrap ((Int.tmod weight_1 13) + 13)) 13))] _ _ _ (by kernel_rfl) ?_
              obtain ⟨x6, hx, h⟩ := bind_some h
              have hcall := code_Rank_w x4.1 0 (Int.tmod (IntKind.i64.wrap ((Int.tmod weight_1 13) + 13)) 13) _ w5 hx
              refine x_call 17 #[] #[] [.int .i64 x4.1, .int .i64 0, .int .i64 (Int.tmod (IntKind.i64.wrap ((Int.tmod weight_1 13) + 13)) 13)] _ rfl rfl rfl rfl hcall ?_
              rintro v w7 ⟨rfl, he7⟩
              clear hcall hx
              refine ⟨.inl rfl, ?_⟩
              replace hms := hms.ev he7
              replace hev := hev.ext he7
              refine x_pure 5 [(69, .tuple #[.int .i64 x6.1, .int .i64 x6.2]), (73, .int .i64 x6.1), (74, .int .i64 x6.2), (12, .int .i64 x6.1), (13, .int .i64 x6.2)] _ _ _ (by kernel_rfl) ?_
              refine x_end rfl ?_
              refine k_then ?_
              refine c_norm [(0, .int .i64 (Int.tmod (IntKind.i64.wrap ((Int.tmod v_h_0 13) + 13)) 13)), (8, .int .i64 x2.1), (10, .int .i64 x4.1), (11, .int .i64 x4.2), (12, .int .i64 x6.1), (13, .int .i64 x6.2)] ⟨rfl, rfl, rfl, rfl, rfl, rfl, trivial⟩ (fun J => ?_)
              refine c_seq ?_
              refine c_plain ?_
              refine x_pure 3 [(75, .int .i64 x4.2), (76, .bool (x4.2 != 0)), (77, .bool (x4.2 != 0))] _ _ _ (by kernel_rfl) ?_
              refine x_split 77 (x4.2 != 0) rfl (fun hb => ?_) (fun hb => ?_)
              · replace h := ite_t hb h
                refine x_pure 14 [(78, undef), (79, undef), (80, .bool true), (81, .bool true), (82, undef), (83, undef), (84, undef), (85, .bool true), (86, .bool true), (87, undef), (88, undef), (89, undef), (90, undef), (91, .bool true)] _ _ _ (by kernel_rfl) ?_
                refine x_end rfl ?_
                refine k_then ?_
                refine c_norm [(91, .bool true)] ⟨rfl, trivial⟩ (fun J => ?_)
                refine c_true rfl ?_
                refine c_seq ?_
                refine c_plain ?_
                refine x_pure 1 [(4, .bool false)] _ _ _ (by kernel_rfl) ?_
                refine x_end rfl ?_
                refine k_then ?_
                refine c_norm [(4, .bool false)] ⟨rfl, trivial⟩ (fun J => ?_)
                refine c_ret ?_
                refine k_then_ret ?_
                refine r_ret (r_one (.bool false) rfl ?_)
                have hx := some_inj h
                subst hx
                exact ⟨rfl, hev⟩
              · replace h := ite_f hb h
                refine x_pure 4 [(78, .int .i64 x6.2), (79, .bool (x6.2 != 0)), (80, .bool (x6.2 != 0)), (81, .bool (x6.2 != 0))] _ _ _ (by kernel_rfl) ?_
                refine x_split 81 (x6.2 != 0) rfl (fun hb => ?_) (fun hb => ?_)
                · replace h := ite_t hb h
                  refine x_pure 10 [(82, undef), (83, undef), (84, undef), (85, .bool true), (86, .bool true), (87, undef), (88, undef), (89, undef), (90, undef), (91, .bool true)] _ _ _ (by kernel_rfl) ?_
                  refine x_end rfl ?_
                  refine k_then ?_
                  refine c_norm [(91, .bool true)] ⟨rfl, trivial⟩ (fun J => ?_)
                  refine c_true rfl ?_
                  refine c_seq ?_
                  refine c_plain ?_
                  refine x_pure 1 [(4, .bool false)] _ _ _ (by kernel_rfl) ?_
                  refine x_end rfl ?_
                  refine k_then ?_
                  refine c_norm [(4, .bool false)] ⟨rfl, trivial⟩ (fun J => ?_)
                  refine c_ret ?_
                  refine k_then_ret ?_
                  refine r_ret (r_one (.bool false) rfl ?_)
                  have hx := some_inj h
                  subst hx
                  exact ⟨rfl, hev⟩
                · replace h := ite_f hb h
                  refine x_pure 5 [(82, .int .i64 x6.1), (83, .int .i64 x2.1), (84, .bool (x6.1 != x2.1)), (85, .bool (x6.1 != x2.1)), (86, .bool (x6.1 != x2.1))] _ _ _ (by kernel_rfl) ?_
                  refine x_split 86 (x6.1 != x2.1) rfl (fun hb => ?_) (fun hb => ?_)
                  · replace h := ite_t hb h
                    refine x_pure 5 [(87, undef), (88, undef), (89, undef), (90, undef), (91, .bool true)] _ _ _ (by kernel_rfl) ?_
                    refine x_end rfl ?_
                    refine k_then ?_
                    refine c_norm [(91, .bool true)] ⟨rfl, trivial⟩ (fun J => ?_)
                    refine c_true rfl ?_
                    refine c_seq ?_
                    refine c_plain ?_
                    refine x_pure 1 [(4, .bool false)] _ _ _ (by kernel_rfl) ?_
                    refine x_end rfl ?_
                    refine k_then ?_
                    refine c_norm [(4, .bool false)] ⟨rfl, trivial⟩ (fun J => ?_)
                    refine c_ret ?_
                    refine k_then_ret ?_
                    refine r_ret (r_one (.bool false) rfl ?_)
                    have hx := some_inj h
                    subst hx
                    exact ⟨rfl, hev⟩
                  · replace h := ite_f hb h
                    refine x_pure 2 [(87, .int .i64 x4.1), (88, .int .i64 (Int.tmod (IntKind.i64.wrap ((Int.tmod v_h_0 13) + 13)) 13))] _ _ _ (by kernel_rfl) ?_
                    refine x_binop (.int .i64 (IntKind.i64.wrap (1 * 2 ^ (min (Int.toNat ((Int.tmod (IntKind.i64.wrap ((Int.tmod v_h_0 13) + 13)) 13))) IntKind.i64.bits)))) (.int .i64 1) (.int .i64 (Int.tmod (IntKind.i64.wrap ((Int.tmod v_h_0 13) + 13)) 13)) rfl rfl rfl rfl (vb_shl (guard_l h)) ?_
                    replace h := guard_r h
                    refine x_pure 2 [(90, .bool (x4.1 != (IntKind.i64.wrap (1 * 2 ^ (min (Int.toNat ((Int.tmod (IntKind.i64.wrap ((Int.tmod v_h_0 13) + 13)) 13))) IntKind.i64.bits))))), (91, .bool (x4.1 != (IntKind.i64.wrap (1 * 2 ^ (min (Int.toNat ((Int.tmod (IntKind.i64.wrap ((Int.tmod v_h_0 13) + 13)) 13))) IntKind.i64.bits)))))] _ _ _ (by kernel_rfl) ?_
                    refine x_end rfl ?_
                    refine k_then ?_
                    refine c_norm [(91, .bool (x4.1 != (IntKind.i64.wrap (1 * 2 ^ (min (Int.toNat ((Int.tmod (IntKind.i64.wrap ((Int.tmod v_h_0 13) + 13)) 13))) IntKind.i64.bits)))))] ⟨rfl, trivial⟩ (fun J => ?_)
                    refine c_cond (x4.1 != (IntKind.i64.wrap (1 * 2 ^ (min (Int.toNat ((Int.tmod (IntKind.i64.wrap ((Int.tmod v_h_0 13) + 13)) 13))) IntKind.i64.bits)))) rfl (fun hb => ?_) (fun hb => ?_)
                    · replace h := ite_t hb h
                      refine c_seq ?_
                      refine c_plain ?_
                      refine x_pure 1 [(4, .bool false)] _ _ _ (by kernel_rfl) ?_
                      refine x_end rfl ?_
                      refine k_then ?_
                      refine c_norm [(4, .bool false)] ⟨rfl, trivial⟩ (fun J => ?_)
                      refine c_ret ?_
                      refine k_then_ret ?_
                      refine r_ret (r_one (.bool false) rfl ?_)
                      have hx := some_inj h
                      subst hx
                      exact ⟨rfl, hev⟩
                    · replace h := ite_f hb h
                      refine c_skip ?_
                      refine k_then ?_
                      refine c_norm [] trivial (fun J => ?_)
                      refine c_seq ?_
                      refine c_plain ?_
                      obtain ⟨x8, hx, h⟩ := bind_some h
                      have hcall := law12_sane_w _ w7 hx
                      refine x_call 14 #[] #[] [] _ rfl rfl rfl rfl hcall ?_
                      rintro v w9 ⟨rfl, he9⟩
                      clear hcall hx
                      refine ⟨.inl rfl, ?_⟩
                      replace hms := hms.ev he9
                      replace hev := hev.ext he9
                      refine x_pure 1 [(4, .bool x8)] _ _ _ (by kernel_rfl) ?_
                      refine x_end rfl ?_
                      refine k_then ?_
                      refine c_norm [(4, .bool x8)] ⟨rfl, trivial⟩ (fun J => ?_)
                      refine c_ret ?_
                      refine r_ret (r_one (.bool x8) rfl ?_)
                      have hx := some_inj h
                      subst hx
                      exact ⟨rfl, hev⟩
            · replace h := ite_f hb h
              refine c_skip ?_
              refine k_then ?_
              refine c_norm [] trivial (fun J => ?_)
              refine c_seq ?_
              refine c_plain ?_
              obtain ⟨x10, hx, h⟩ := bind_some h
              have hcall := law12_sane_w _ w3 hx
              refine x_call 14 #[] #[] [] _ rfl rfl rfl rfl hcall ?_
              rintro v w11 ⟨rfl, he11⟩
              clear hcall hx
              refine ⟨.inl rfl, ?_⟩
              replace hms := hms.ev he11
              replace hev := hev.ext he11
              refine x_pure 1 [(4, .bool x10)] _ _ _ (by kernel_rfl) ?_
              refine x_end rfl ?_
              refine k_then ?_
              refine c_norm [(4, .bool x10)] ⟨rfl, trivial⟩ (fun J => ?_)
              refine c_ret ?_
              refine r_ret (r_one (.bool x10) rfl ?_)
              have hx := some_inj h
              subst hx
              exact ⟨rfl, hev⟩
          · replace h := ite_f hb h
            refine x_pure 3 [(59, undef), (60, undef), (61, .bool false)] _ _ _ (by kernel_rfl) ?_
            refine x_end rfl ?_
            refine k_then ?_
            refine c_norm [(0, .int .i64 (Int.tmod (IntKind.i64.wrap ((Int.tmod v_h_0 13) + 13)) 13)), (1, .int .i64 (Int.tmod (IntKind.i64.wrap ((Int.tmod weight_1 13) + 13)) 13)), (8, .int .i64 x2.1), (61, .bool false)] ⟨rfl, rfl, rfl, rfl, trivial⟩ (fun J => ?_)
            refine c_false rfl ?_
            refine c_skip ?_
            refine k_then ?_
            refine c_seq ?_
            refine c_plain ?_
            obtain ⟨x12, hx, h⟩ := bind_some h
            have hcall := law12_sane_w _ w3 hx
            refine x_call 14 #[] #[] [] _ rfl rfl rfl rfl hcall ?_
            rintro v w13 ⟨rfl, he13⟩
            clear hcall hx
            refine ⟨.inl rfl, ?_⟩
            replace hms := hms.ev he13
            replace hev := hev.ext he13
            refine x_pure 1 [(4, .bool x12)] _ _ _ (by kernel_rfl) ?_
            refine x_end rfl ?_
            refine k_then ?_
            refine c_norm [(4, .bool x12)] ⟨rfl, trivial⟩ (fun J => ?_)
            refine c_ret ?_
            refine r_ret (r_one (.bool x12) rfl ?_)
            have hx := some_inj h
            subst hx
            exact ⟨rfl, hev⟩
  · replace h := ite_f hb h
    refine x_pure 4 [(26, undef), (27, undef), (28, undef), (29, .bool false)] _ _ _ (by kernel_rfl) ?_
    refine x_end rfl ?_
    refine k_then ?_
    refine c_norm [(0, .int .i64 (Int.tmod (IntKind.i64.wrap ((Int.tmod v_h_0 13) + 13)) 13)), (1, .int .i64 (Int.tmod (IntKind.i64.wrap ((Int.tmod weight_1 13) + 13)) 13)), (5, .int .i64 want_s5), (6, .int .i64 b_s6), (7, .int .i64 i_s7), (29, .bool false)] ⟨rfl, rfl, rfl, rfl, rfl, rfl, trivial⟩ (fun J => ?_)
    refine c_false rfl ?_
    refine c_exit ?_
    refine k_then_exit ?_
    have hx := some_inj h
    subst hx
    have hy := some_inj hn1
    subst hy
    replace h := h1
    refine k_then_exit ?_
    refine k_block_in ?_
    refine k_then ?_
    refine c_norm [(0, .int .i64 (Int.tmod (IntKind.i64.wrap ((Int.tmod v_h_0 13) + 13)) 13)), (1, .int .i64 (Int.tmod (IntKind.i64.wrap ((Int.tmod weight_1 13) + 13)) 13)), (5, .int .i64 want_s5)] ⟨rfl, rfl, rfl, trivial⟩ (fun J => ?_)
    refine c_seq ?_
    refine c_plain ?_
    refine x_pure 2 [(44, .int .i64 (Int.tmod (IntKind.i64.wrap ((Int.tmod v_h_0 13) + 13)) 13)), (45, .int .i64 (Int.tmod (IntKind.i64.wrap ((Int.tmod weight_1 13) + 13)) 13))] _ _ _ (by kernel_rfl) ?_
    obtain ⟨x2, hx, h⟩ := bind_some h
    have hcall := code_Count_w (Int.tmod (IntKind.i64.wrap ((Int.tmod v_h_0 13) + 13)) 13) 0 (Int.tmod (IntKind.i64.wrap ((Int.tmod weight_1 13) + 13)) 13) _ w1 hx
    refine x_call 16 #[] #[] [.int .i64 (Int.tmod (IntKind.i64.wrap ((Int.tmod v_h_0 13) + 13)) 13), .int .i64 0, .int .i64 (Int.tmod (IntKind.i64.wrap ((Int.tmod weight_1 13) + 13)) 13)] _ rfl rfl rfl rfl hcall ?_
    rintro v w3 ⟨rfl, he3⟩
    clear hcall hx
    refine ⟨.inl rfl, ?_⟩
    replace hms := hms.ev he3
    replace hev := hev.ext he3
    refine x_pure 5 [(43, .tuple #[.int .i64 x2.1, .int .i64 x2.2]), (47, .int .i64 x2.1), (48, .int .i64 x2.2), (8, .int .i64 x2.1), (9, .int .i64 x2.2)] _ _ _ (by kernel_rfl) ?_
    refine x_end rfl ?_
    refine k_then ?_
    refine c_norm [(0, .int .i64 (Int.tmod (IntKind.i64.wrap ((Int.tmod v_h_0 13) + 13)) 13)), (1, .int .i64 (Int.tmod (IntKind.i64.wrap ((Int.tmod weight_1 13) + 13)) 13)), (5, .int .i64 want_s5), (8, .int .i64 x2.1), (9, .int .i64 x2.2)] ⟨rfl, rfl, rfl, rfl, rfl, trivial⟩ (fun J => ?_)
    refine c_seq ?_
    refine c_seq ?_
    refine c_plain ?_
    refine x_pure 3 [(49, .int .i64 x2.2), (50, .bool (x2.2 != 0)), (51, .bool (x2.2 != 0))] _ _ _ (by kernel_rfl) ?_
    refine x_split 51 (x2.2 != 0) rfl (fun hb => ?_) (fun hb => ?_)
    · replace h := ite_t hb h
      refine x_pure 4 [(52, undef), (53, undef), (54, undef), (55, .bool true)] _ _ _ (by kernel_rfl) ?_
      refine x_end rfl ?_
      refine k_then ?_
      refine c_norm [(0, .int .i64 (Int.tmod (IntKind.i64.wrap ((Int.tmod v_h_0 13) + 13)) 13)), (1, .int .i64 (Int.tmod (IntKind.i64.wrap ((Int.tmod weight_1 13) + 13)) 13)), (8, .int .i64 x2.1), (55, .bool true)] ⟨rfl, rfl, rfl, rfl, trivial⟩ (fun J => ?_)
      refine c_true rfl ?_
      refine c_seq ?_
      refine c_plain ?_
      refine x_pure 1 [(4, .bool false)] _ _ _ (by kernel_rfl) ?_
      refine x_end rfl ?_
      refine k_then ?_
      refine c_norm [(4, .bool false)] ⟨rfl, trivial⟩ (fun J => ?_)
      refine c_ret ?_
      refine k_then_ret ?_
      refine r_ret (r_one (.bool false) rfl ?_)
      have hx := some_inj h
      subst hx
      exact ⟨rfl, hev⟩
    · replace h := ite_f hb h
      refine x_pure 4 [(52, .int .i64 x2.1), (53, .int .i64 want_s5), (54, .bool (x2.1 != want_s5)), (55, .bool (x2.1 != want_s5))] _ _ _ (by kernel_rfl) ?_
      refine x_end rfl ?_
      refine k_then ?_
      refine c_norm [(0, .int .i64 (Int.tmod (IntKind.i64.wrap ((Int.tmod v_h_0 13) + 13)) 13)), (1, .int .i64 (Int.tmod (IntKind.i64.wrap ((Int.tmod weight_1 13) + 13)) 13)), (8, .int .i64 x2.1), (55, .bool (x2.1 != want_s5))] ⟨rfl, rfl, rfl, rfl, trivial⟩ (fun J => ?_)
      refine c_cond (x2.1 != want_s5) rfl (fun hb => ?_) (fun hb => ?_)
      · replace h := ite_t hb h
        refine c_seq ?_
        refine c_plain ?_
        refine x_pure 1 [(4, .bool false)] _ _ _ (by kernel_rfl) ?_
        refine x_end rfl ?_
        refine k_then ?_
        refine c_norm [(4, .bool false)] ⟨rfl, trivial⟩ (fun J => ?_)
        refine c_ret ?_
        refine k_then_ret ?_
        refine r_ret (r_one (.bool false) rfl ?_)
        have hx := some_inj h
        subst hx
        exact ⟨rfl, hev⟩
      · replace h := ite_f hb h
        refine c_skip ?_
        refine k_then ?_
        refine c_norm [(0, .int .i64 (Int.tmod (IntKind.i64.wrap ((Int.tmod v_h_0 13) + 13)) 13)), (1, .int .i64 (Int.tmod (IntKind.i64.wrap ((Int.tmod weight_1 13) + 13)) 13)), (8, .int .i64 x2.1)] ⟨rfl, rfl, rfl, trivial⟩ (fun J => ?_)
        refine c_seq ?_
        refine c_seq ?_
        refine c_plain ?_
        refine x_pure 3 [(56, .int .i64 (Int.tmod (IntKind.i64.wrap ((Int.tmod v_h_0 13) + 13)) 13)), (57, .bool (decide ((Int.tmod (IntKind.i64.wrap ((Int.tmod v_h_0 13) + 13)) 13) < 12))), (58, .bool (decide ((Int.tmod (IntKind.i64.wrap ((Int.tmod v_h_0 13) + 13)) 13) < 12)))] _ _ _ (by kernel_rfl) ?_
        refine x_split 58 (decide ((Int.tmod (IntKind.i64.wrap ((Int.tmod v_h_0 13) + 13)) 13) < 12)) rfl (fun hb => ?_) (fun hb => ?_)
        · replace h := ite_t hb h
          refine x_pure 3 [(59, .int .i64 (Int.tmod (IntKind.i64.wrap ((Int.tmod weight_1 13) + 13)) 13)), (60, .bool (decide ((Int.tmod (IntKind.i64.wrap ((Int.tmod weight_1 13) + 13)) 13) > 0))), (61, .bool (decide ((Int.tmod (IntKind.i64.wrap ((Int.tmod weight_1 13) + 13)) 13) > 0)))] _ _ _ (by kernel_rfl) ?_
          refine x_end rfl ?_
          refine k_then ?_
          refine c_norm [(0, .int .i64 (Int.tmod (IntKind.i64.wrap ((Int.tmod v_h_0 13) + 13)) 13)), (1, .int .i64 (Int.tmod (IntKind.i64.wrap ((Int.tmod weight_1 13) + 13)) 13)), (8, .int .i64 x2.1), (61, .bool (decide ((Int.tmod (IntKind.i64.wrap ((Int.tmod weight_1 13) + 13)) 13) > 0)))] ⟨rfl, rfl, rfl, rfl, trivial⟩ (fun J => ?_)
          refine c_cond (decide ((Int.tmod (IntKind.i64.wrap ((Int.tmod weight_1 13) + 13)) 13) > 0)) rfl (fun hb => ?_) (fun hb => ?_)
          · replace h := ite_t hb h
            refine c_seq ?_
            refine c_plain ?_
            refine x_pure 1 [(63, .int .i64 (Int.tmod (IntKind.i64.wrap ((Int.tmod v_h_0 13) + 13)) 13))] _ _ _ (by kernel_rfl) ?_
            refine x_binop (.int .i64 (IntKind.i64.wrap (1 * 2 ^ (min (Int.toNat ((Int.tmod (IntKind.i64.wrap ((Int.tmod v_h_0 13) + 13)) 13))) IntKind.i64.bits)))) (.int .i64 1) (.int .i64 (Int.tmod (IntKind.i64.wrap ((Int.tmod v_h_0 13) + 13)) 13)) rfl rfl rfl rfl (vb_shl (guard_l h)) ?_
            replace h := guard_r h
            refine x_pure 1 [(65, .int .i64 (Int.tmod (IntKind.i64.wrap ((Int.tmod weight_1 13) + 13)) 13))] _ _ _ (by kernel_rfl) ?_
            obtain ⟨x4, hx, h⟩ := bind_some h
            have hcall := code_Next_w (IntKind.i64.wrap (1 * 2 ^ (min (Int.toNat ((Int.tmod (IntKind.i64.wrap ((Int.tmod v_h_0 13) + 13)) 13))) IntKind.i64.bits))) 0 (Int.tmod (IntKind.i64.wrap ((Int.tmod weight_1 13) + 13)) 13) _ w3 hx
            refine x_call 12 #[] #[] [.int .i64 (IntKind.i64.wrap (1 * 2 ^ (min (Int.toNat ((Int.tmod (IntKind.i64.wrap ((Int.tmod v_h_0 13) + 13)) 13))) IntKind.i64.bits))), .int .i64 0, .int .i64 (Int.tmod (IntKind.i64.wrap ((Int.tmod weight_1 13) + 13)) 13)] _ rfl rfl rfl rfl hcall ?_
            rintro v w5 ⟨rfl, he5⟩
            clear hcall hx
            refine ⟨.inl rfl, ?_⟩
            replace hms := hms.ev he5
            replace hev := hev.ext he5
            refine x_pure 5 [(62, .tuple #[.int .i64 x4.1, .int .i64 x4.2]), (67, .int .i64 x4.1), (68, .int .i64 x4.2), (10, .int .i64 x4.1), (11, .int .i64 x4.2)] _ _ _ (by kernel_rfl) ?_
            refine x_end rfl ?_
            refine k_then ?_
            refine c_norm [(0, .int .i64 (Int.tmod (IntKind.i64.wrap ((Int.tmod v_h_0 13) + 13)) 13)), (1, .int .i64 (Int.tmod (IntKind.i64.wrap ((Int.tmod weight_1 13) + 13)) 13)), (8, .int .i64 x2.1), (10, .int .i64 x4.1), (11, .int .i64 x4.2)] ⟨rfl, rfl, rfl, rfl, rfl, trivial⟩ (fun J => ?_)
            refine c_seq ?_
            refine c_plain ?_
            refine x_pure 2 [(70, .int .i64 x4.1), (71, .int .i64 (Int.tmod (IntKind.i64.wrap ((Int.tmod weight_1 13) + 13)) 13))] _ _ _ (by kernel_rfl) ?_
            obtain ⟨x6, hx, h⟩ := bind_some h
            have hcall := code_Rank_w x4.1 0 (Int.tmod (IntKind.i64.wrap ((Int.tmod weight_1 13) + 13)) 13) _ w5 hx
            refine x_call 17 #[] #[] [.int .i64 x4.1, .int .i64 0, .int .i64 (Int.tmod (IntKind.i64.wrap ((Int.tmod weight_1 13) + 13)) 13)] _ rfl rfl rfl rfl hcall ?_
            rintro v w7 ⟨rfl, he7⟩
            clear hcall hx
            refine ⟨.inl rfl, ?_⟩
            replace hms := hms.ev he7
            replace hev := hev.ext he7
            refine x_pure 5 [(69, .tuple #[.int .i64 x6.1, .int .i64 x6.2]), (73, .int .i64 x6.1), (74, .int .i64 x6.2), (12, .int .i64 x6.1), (13, .int .i64 x6.2)] _ _ _ (by kernel_rfl) ?_
            refine x_end rfl ?_
            refine k_then ?_
            refine c_norm [(0, .int .i64 (Int.tmod (IntKind.i64.wrap ((Int.tmod v_h_0 13) + 13)) 13)), (8, .int .i64 x2.1), (10, .int .i64 x4.1), (11, .int .i64 x4.2), (12, .int .i64 x6.1), (13, .int .i64 x6.2)] ⟨rfl, rfl, rfl, rfl, rfl, rfl, trivial⟩ (fun J => ?_)
            refine c_seq ?_
            refine c_plain ?_
            refine x_pure 3 [(75, .int .i64 x4.2), (76, .bool (x4.2 != 0)), (77, .bool (x4.2 != 0))] _ _ _ (by kernel_rfl) ?_
            refine x_split 77 (x4.2 != 0) rfl (fun hb => ?_) (fun hb => ?_)
            · replace h := ite_t hb h
              refine x_pure 14 [(78, undef), (79, undef), (80, .bool true), (81, .bool true), (82, undef), (83, undef), (84, undef), (85, .bool true), (86, .bool true), (87, undef), (88, undef), (89, undef), (90, undef), (91, .bool true)] _ _ _ (by kernel_rfl) ?_
              refine x_end rfl ?_
              refine k_then ?_
              refine c_norm [(91, .bool true)] ⟨rfl, trivial⟩ (fun J => ?_)
              refine c_true rfl ?_
              refine c_seq ?_
              refine c_plain ?_
              refine x_pure 1 [(4, .bool false)] _ _ _ (by kernel_rfl) ?_
              refine x_end rfl ?_
              refine k_then ?_
              refine c_norm [(4, .bool false)] ⟨rfl, trivial⟩ (fun J => ?_)
              refine c_ret ?_
              refine k_then_ret ?_
              refine r_ret (r_one (.bool false) rfl ?_)
              have hx := some_inj h
              subst hx
              exact ⟨rfl, hev⟩
            · replace h := ite_f hb h
              refine x_pure 4 [(78, .int .i64 x6.2), (79, .bool (x6.2 != 0)), (80, .bool (x6.2 != 0)), (81, .bool (x6.2 != 0))] _ _ _ (by kernel_rfl) ?_
              refine x_split 81 (x6.2 != 0) rfl (fun hb => ?_) (fun hb => ?_)
              · replace h := ite_t hb h
                refine x_pure 10 [(82, undef), (83, undef), (84, undef), (85, .bool true), (86, .bool true), (87, undef), (88, undef), (89, undef), (90, undef), (91, .bool true)] _ _ _ (by kernel_rfl) ?_
                refine x_end rfl ?_
                refine k_then ?_
                refine c_norm [(91, .bool true)] ⟨rfl, trivial⟩ (fun J => ?_)
                refine c_true rfl ?_
                refine c_seq ?_
                refine c_plain ?_
                refine x_pure 1 [(4, .bool false)] _ _ _ (by kernel_rfl) ?_
                refine x_end rfl ?_
                refine k_then ?_
                refine c_norm [(4, .bool false)] ⟨rfl, trivial⟩ (fun J => ?_)
                refine c_ret ?_
                refine k_then_ret ?_
                refine r_ret (r_one (.bool false) rfl ?_)
                have hx := some_inj h
                subst hx
                exact ⟨rfl, hev⟩
              · replace h := ite_f hb h
                refine x_pure 5 [(82, .int .i64 x6.1), (83, .int .i64 x2.1), (84, .bool (x6.1 != x2.1)), (85, .bool (x6.1 != x2.1)), (86, .bool (x6.1 != x2.1))] _ _ _ (by kernel_rfl) ?_
                refine x_split 86 (x6.1 != x2.1) rfl (fun hb => ?_) (fun hb => ?_)
                · replace h := ite_t hb h
                  refine x_pure 5 [(87, undef), (88, undef), (89, undef), (90, undef), (91, .bool true)] _ _ _ (by kernel_rfl) ?_
                  refine x_end rfl ?_
                  refine k_then ?_
                  refine c_norm [(91, .bool true)] ⟨rfl, trivial⟩ (fun J => ?_)
                  refine c_true rfl ?_
                  refine c_seq ?_
                  refine c_plain ?_
                  refine x_pure 1 [(4, .bool false)] _ _ _ (by kernel_rfl) ?_
                  refine x_end rfl ?_
                  refine k_then ?_
                  refine c_norm [(4, .bool false)] ⟨rfl, trivial⟩ (fun J => ?_)
                  refine c_ret ?_
                  refine k_then_ret ?_
                  refine r_ret (r_one (.bool false) rfl ?_)
                  have hx := some_inj h
                  subst hx
                  exact ⟨rfl, hev⟩
                · replace h := ite_f hb h
                  refine x_pure 2 [(87, .int .i64 x4.1), (88, .int .i64 (Int.tmod (IntKind.i64.wrap ((Int.tmod v_h_0 13) + 13)) 13))] _ _ _ (by kernel_rfl) ?_
                  refine x_binop (.int .i64 (IntKind.i64.wrap (1 * 2 ^ (min (Int.toNat ((Int.tmod (IntKind.i64.wrap ((Int.tmod v_h_0 13) + 13)) 13))) IntKind.i64.bits)))) (.int .i64 1) (.int .i64 (Int.tmod (IntKind.i64.wrap ((Int.tmod v_h_0 13) + 13)) 13)) rfl rfl rfl rfl (vb_shl (guard_l h)) ?_
                  replace h := guard_r h
                  refine x_pure 2 [(90, .bool (x4.1 != (IntKind.i64.wrap (1 * 2 ^ (min (Int.toNat ((Int.tmod (IntKind.i64.wrap ((Int.tmod v_h_0 13) + 13)) 13))) IntKind.i64.bits))))), (91, .bool (x4.1 != (IntKind.i64.wrap (1 * 2 ^ (min (Int.toNat ((Int.tmod (IntKind.i64.wrap ((Int.tmod v_h_0 13) + 13)) 13))) IntKind.i64.bits)))))] _ _ _ (by kernel_rfl) ?_
                  refine x_end rfl ?_
                  refine k_then ?_
                  refine c_norm [(91, .bool (x4.1 != (IntKind.i64.wrap (1 * 2 ^ (min (Int.toNat ((Int.tmod (IntKind.i64.wrap ((Int.tmod v_h_0 13) + 13)) 13))) IntKind.i64.bits)))))] ⟨rfl, trivial⟩ (fun J => ?_)
                  refine c_cond (x4.1 != (IntKind.i64.wrap (1 * 2 ^ (min (Int.toNat ((Int.tmod (IntKind.i64.wrap ((Int.tmod v_h_0 13) + 13)) 13))) IntKind.i64.bits)))) rfl (fun hb => ?_) (fun hb => ?_)
                  · replace h := ite_t hb h
                    refine c_seq ?_
                    refine c_plain ?_
                    refine x_pure 1 [(4, .bool false)] _ _ _ (by kernel_rfl) ?_
                    refine x_end rfl ?_
                    refine k_then ?_
                    refine c_norm [(4, .bool false)] ⟨rfl, trivial⟩ (fun J => ?_)
                    refine c_ret ?_
                    refine k_then_ret ?_
                    refine r_ret (r_one (.bool false) rfl ?_)
                    have hx := some_inj h
                    subst hx
                    exact ⟨rfl, hev⟩
                  · replace h := ite_f hb h
                    refine c_skip ?_
                    refine k_then ?_
                    refine c_norm [] trivial (fun J => ?_)
                    refine c_seq ?_
                    refine c_plain ?_
                    obtain ⟨x8, hx, h⟩ := bind_some h
                    have hcall := law12_sane_w _ w7 hx
                    refine x_call 14 #[] #[] [] _ rfl rfl rfl rfl hcall ?_
                    rintro v w9 ⟨rfl, he9⟩
                    clear hcall hx
                    refine ⟨.inl rfl, ?_⟩
                    replace hms := hms.ev he9
                    replace hev := hev.ext he9
                    refine x_pure 1 [(4, .bool x8)] _ _ _ (by kernel_rfl) ?_
                    refine x_end rfl ?_
                    refine k_then ?_
                    refine c_norm [(4, .bool x8)] ⟨rfl, trivial⟩ (fun J => ?_)
                    refine c_ret ?_
                    refine r_ret (r_one (.bool x8) rfl ?_)
                    have hx := some_inj h
                    subst hx
                    exact ⟨rfl, hev⟩
          · replace h := ite_f hb h
            refine c_skip ?_
            refine k_then ?_
            refine c_norm [] trivial (fun J => ?_)
            refine c_seq ?_
            refine c_plain ?_
            obtain ⟨x10, hx, h⟩ := bind_some h
            have hcall := law12_sane_w _ w3 hx
            refine x_call 14 #[] #[] [] _ rfl rfl rfl rfl hcall ?_
            rintro v w11 ⟨rfl, he11⟩
            clear hcall hx
            refine ⟨.inl rfl, ?_⟩
            replace hms := hms.ev he11
            replace hev := hev.ext he11
            refine x_pure 1 [(4, .bool x10)] _ _ _ (by kernel_rfl) ?_
            refine x_end rfl ?_
            refine k_then ?_
            refine c_norm [(4, .bool x10)] ⟨rfl, trivial⟩ (fun J => ?_)
            refine c_ret ?_
            refine r_ret (r_one (.bool x10) rfl ?_)
            have hx := some_inj h
            subst hx
            exact ⟨rfl, hev⟩
        · replace h := ite_f hb h
          refine x_pure 3 [(59, undef), (60, undef), (61, .bool false)] _ _ _ (by kernel_rfl) ?_
          refine x_end rfl ?_
          refine k_then ?_
          refine c_norm [(0, .int .i64 (Int.tmod (IntKind.i64.wrap ((Int.tmod v_h_0 13) + 13)) 13)), (1, .int .i64 (Int.tmod (IntKind.i64.wrap ((Int.tmod weight_1 13) + 13)) 13)), (8, .int .i64 x2.1), (61, .bool false)] ⟨rfl, rfl, rfl, rfl, trivial⟩ (fun J => ?_)
          refine c_false rfl ?_
          refine c_skip ?_
          refine k_then ?_
          refine c_seq ?_
          refine c_plain ?_
          obtain ⟨x12, hx, h⟩ := bind_some h
          have hcall := law12_sane_w _ w3 hx
          refine x_call 14 #[] #[] [] _ rfl rfl rfl rfl hcall ?_
          rintro v w13 ⟨rfl, he13⟩
          clear hcall hx
          refine ⟨.inl rfl, ?_⟩
          replace hms := hms.ev he13
          replace hev := hev.ext he13
          refine x_pure 1 [(4, .bool x12)] _ _ _ (by kernel_rfl) ?_
          refine x_end rfl ?_
          refine k_then ?_
          refine c_norm [(4, .bool x12)] ⟨rfl, trivial⟩ (fun J => ?_)
          refine c_ret ?_
          refine r_ret (r_one (.bool x12) rfl ?_)
          have hx := some_inj h
          subst hx
          exact ⟨rfl, hev⟩
end Go.Proofs.Ytjcikgeffhghkaa
