/- Walks, printed by program: each function returns what the partial function of the same name returns. Conditions: those of each theorem. -/
import Derived.Test.YtjcikgeffhghkaaGT
set_option linter.unusedVariables false
set_option maxRecDepth 4000
namespace Go.Proofs.Ytjcikgeffhghkaa
open Go Go.V Go.Proofs
def code_in (n_0 : Int) (lo_1 : Int) (hi_2 : Int) : Option Bool :=
(if (decide (n_0 ≥ lo_1)) = true then
some (decide (n_0 ≤ hi_2))
else
some false)

theorem code_in_w (n_0 : Int) (lo_1 : Int) (hi_2 : Int) (r : Bool) (w : World) (h : code_in n_0 lo_1 hi_2 = some r) : CallVC Try.prog 25 [.int .i64 n_0, .int .i64 lo_1, .int .i64 hi_2] w fun v w' => v = .bool r ∧ Ev [] w w' := by
  refine calls_vc hmx Try.func25 (by kernel_rfl) rfl (rs := [.tmp 6]) rfl (by kernel_rfl) (args := [.int .i64 n_0, .int .i64 lo_1, .int .i64 hi_2]) rfl ?_
  have hev : Ev [] w w := Ev.refl _ _
  have hms : MS w [[]] := ⟨List.pairwise_singleton _ _, fun l hl b hb => by simp only [List.mem_singleton] at hl; subst hl; cases hb⟩
  have hfr : FR w.heap.size [] := FR.nil _
  refine c_seq ?_
  refine c_plain ?_
  refine x_pure 1 [(6, .bool false)] _ _ _ (by kernel_rfl) ?_
  refine x_end rfl ?_
  refine k_then ?_
  refine c_norm [(0, .int .i64 n_0), (1, .int .i64 lo_1), (2, .int .i64 hi_2)] ⟨rfl, rfl, rfl, trivial⟩ (fun J => ?_)
  refine c_seq ?_
  refine c_plain ?_
  refine x_pure 4 [(7, .int .i64 n_0), (8, .int .i64 lo_1), (9, .bool (decide (n_0 ≥ lo_1))), (10, .bool (decide (n_0 ≥ lo_1)))] _ _ _ (by kernel_rfl) ?_
  refine x_split 10 (decide (n_0 ≥ lo_1)) rfl (fun hb => ?_) (fun hb => ?_)
  · replace h := ite_t hb h
    refine x_pure 5 [(11, .int .i64 n_0), (12, .int .i64 hi_2), (13, .bool (decide (n_0 ≤ hi_2))), (14, .bool (decide (n_0 ≤ hi_2))), (6, .bool (decide (n_0 ≤ hi_2)))] _ _ _ (by kernel_rfl) ?_
    refine x_end rfl ?_
    refine k_then ?_
    refine c_norm [(6, .bool (decide (n_0 ≤ hi_2)))] ⟨rfl, trivial⟩ (fun J => ?_)
    refine c_ret ?_
    refine r_ret (r_one (.bool (decide (n_0 ≤ hi_2))) rfl ?_)
    have hx := some_inj h
    subst hx
    exact ⟨rfl, hev⟩
  · replace h := ite_f hb h
    refine x_pure 5 [(11, undef), (12, undef), (13, undef), (14, .bool false), (6, .bool false)] _ _ _ (by kernel_rfl) ?_
    refine x_end rfl ?_
    refine k_then ?_
    refine c_norm [(6, .bool false)] ⟨rfl, trivial⟩ (fun J => ?_)
    refine c_ret ?_
    refine r_ret (r_one (.bool false) rfl ?_)
    have hx := some_inj h
    subst hx
    exact ⟨rfl, hev⟩
def code_form (round_0 : Int) (weight_1 : Int) : Option Bool :=
((code_in round_0 0 12).bind fun x1 =>
(if x1 = true then
((code_in weight_1 0 12).bind fun x3 =>
some x3)
else
some false))

theorem code_form_w (round_0 : Int) (weight_1 : Int) (r : Bool) (w : World) (h : code_form round_0 weight_1 = some r) : CallVC Try.prog 22 [.int .i64 round_0, .int .i64 weight_1] w fun v w' => v = .bool r ∧ Ev [] w w' := by
  refine calls_vc hmx Try.func22 (by kernel_rfl) rfl (rs := [.tmp 4]) rfl (by kernel_rfl) (args := [.int .i64 round_0, .int .i64 weight_1]) rfl ?_
  have hev : Ev [] w w := Ev.refl _ _
  have hms : MS w [[]] := ⟨List.pairwise_singleton _ _, fun l hl b hb => by simp only [List.mem_singleton] at hl; subst hl; cases hb⟩
  have hfr : FR w.heap.size [] := FR.nil _
  refine c_seq ?_
  refine c_plain ?_
  refine x_pure 1 [(4, .bool false)] _ _ _ (by kernel_rfl) ?_
  refine x_end rfl ?_
  refine k_then ?_
  refine c_norm [(0, .int .i64 round_0), (1, .int .i64 weight_1)] ⟨rfl, rfl, trivial⟩ (fun J => ?_)
  refine c_seq ?_
  refine c_plain ?_
  refine x_pure 1 [(5, .int .i64 round_0)] _ _ _ (by kernel_rfl) ?_
  obtain ⟨x1, hx, h⟩ := bind_some h
  have hcall := code_in_w round_0 0 12 _ w hx
  refine x_call 25 #[] #[] [.int .i64 round_0, .int .i64 0, .int .i64 12] _ rfl rfl rfl rfl hcall ?_
  rintro v w2 ⟨rfl, he2⟩
  clear hcall hx
  refine ⟨.inl rfl, ?_⟩
  replace hms := hms.ev he2
  replace hev := hev.ext he2
  refine x_pure 1 [(7, .bool x1)] _ _ _ (by kernel_rfl) ?_
  refine x_split 7 x1 rfl (fun hb => ?_) (fun hb => ?_)
  · replace h := ite_t hb h
    refine x_pure 1 [(8, .int .i64 weight_1)] _ _ _ (by kernel_rfl) ?_
    obtain ⟨x3, hx, h⟩ := bind_some h
    have hcall := code_in_w weight_1 0 12 _ w2 hx
    refine x_call 25 #[] #[] [.int .i64 weight_1, .int .i64 0, .int .i64 12] _ rfl rfl rfl rfl hcall ?_
    rintro v w4 ⟨rfl, he4⟩
    clear hcall hx
    refine ⟨.inl rfl, ?_⟩
    replace hms := hms.ev he4
    replace hev := hev.ext he4
    refine x_pure 2 [(10, .bool x3), (4, .bool x3)] _ _ _ (by kernel_rfl) ?_
    refine x_end rfl ?_
    refine k_then ?_
    refine c_norm [(4, .bool x3)] ⟨rfl, trivial⟩ (fun J => ?_)
    refine c_ret ?_
    refine r_ret (r_one (.bool x3) rfl ?_)
    have hx := some_inj h
    subst hx
    exact ⟨rfl, hev⟩
  · replace h := ite_f hb h
    refine x_pure 4 [(8, undef), (9, undef), (10, .bool false), (4, .bool false)] _ _ _ (by kernel_rfl) ?_
    refine x_end rfl ?_
    refine k_then ?_
    refine c_norm [(4, .bool false)] ⟨rfl, trivial⟩ (fun J => ?_)
    refine c_ret ?_
    refine r_ret (r_one (.bool false) rfl ?_)
    have hx := some_inj h
    subst hx
    exact ⟨rfl, hev⟩
def code_missed (round_0 : Int) : Option Int :=
(if 0 ≤ round_0 then
some (IntKind.i64.wrap ((IntKind.i64.wrap (1 * 2 ^ (min (Int.toNat (round_0)) IntKind.i64.bits))) - 1))
else none)

theorem code_missed_w (round_0 : Int) (r : Int) (w : World) (h : code_missed round_0 = some r) : CallVC Try.prog 23 [.int .i64 round_0] w fun v w' => v = .int .i64 r ∧ Ev [] w w' := by
  refine calls_vc hmx Try.func23 (by kernel_rfl) rfl (rs := [.tmp 2]) rfl (by kernel_rfl) (args := [.int .i64 round_0]) rfl ?_
  have hev : Ev [] w w := Ev.refl _ _
  have hms : MS w [[]] := ⟨List.pairwise_singleton _ _, fun l hl b hb => by simp only [List.mem_singleton] at hl; subst hl; cases hb⟩
  have hfr : FR w.heap.size [] := FR.nil _
  refine c_seq ?_
  refine c_plain ?_
  refine x_pure 1 [(2, .int .i64 0)] _ _ _ (by kernel_rfl) ?_
  refine x_end rfl ?_
  refine k_then ?_
  refine c_norm [(0, .int .i64 round_0)] ⟨rfl, trivial⟩ (fun J => ?_)
  refine c_seq ?_
  refine c_plain ?_
  refine x_pure 1 [(3, .int .i64 round_0)] _ _ _ (by kernel_rfl) ?_
  refine x_binop (.int .i64 (IntKind.i64.wrap (1 * 2 ^ (min (Int.toNat (round_0)) IntKind.i64.bits)))) (.int .i64 1) (.int .i64 round_0) rfl rfl rfl rfl (vb_shl (guard_l h)) ?_
  replace h := guard_r h
  refine x_pure 2 [(5, .int .i64 (IntKind.i64.wrap ((IntKind.i64.wrap (1 * 2 ^ (min (Int.toNat (round_0)) IntKind.i64.bits))) - 1))), (2, .int .i64 (IntKind.i64.wrap ((IntKind.i64.wrap (1 * 2 ^ (min (Int.toNat (round_0)) IntKind.i64.bits))) - 1)))] _ _ _ (by kernel_rfl) ?_
  refine x_end rfl ?_
  refine k_then ?_
  refine c_norm [(2, .int .i64 (IntKind.i64.wrap ((IntKind.i64.wrap (1 * 2 ^ (min (Int.toNat (round_0)) IntKind.i64.bits))) - 1)))] ⟨rfl, trivial⟩ (fun J => ?_)
  refine c_ret ?_
  refine r_ret (r_one (.int .i64 (IntKind.i64.wrap ((IntKind.i64.wrap (1 * 2 ^ (min (Int.toNat (round_0)) IntKind.i64.bits))) - 1))) rfl ?_)
  have hx := some_inj h
  subst hx
  exact ⟨rfl, hev⟩
def code_ones_L1 (s : Int × Int) : Option (Step (Int × Int) Int) :=
match s with
| (k_s0, n_s3) =>
(if (k_s0 != 0) = true then
some (.next (IntKind.i64.wrap ↑(BitVec.ofInt IntKind.i64.bits k_s0 &&& BitVec.ofInt IntKind.i64.bits (IntKind.i64.wrap (k_s0 - 1))).toNat, IntKind.i64.wrap (n_s3 + 1)))
else
some (.done n_s3))

def code_ones (k_0 : Int) : Option Int :=
((loop code_ones_L1 (k_0, 0)).bind fun d => match d with
| n_x3 => some n_x3)

theorem code_ones_w (k_0 : Int) (r : Int) (w : World) (h : code_ones k_0 = some r) : CallVC Try.prog 24 [.int .i64 k_0] w fun v w' => v = .int .i64 r ∧ Ev [] w w' := by
  refine calls_vc hmx Try.func24 (by kernel_rfl) rfl (rs := [.tmp 2]) rfl (by kernel_rfl) (args := [.int .i64 k_0]) rfl ?_
  have hev : Ev [] w w := Ev.refl _ _
  have hms : MS w [[]] := ⟨List.pairwise_singleton _ _, fun l hl b hb => by simp only [List.mem_singleton] at hl; subst hl; cases hb⟩
  have hfr : FR w.heap.size [] := FR.nil _
  refine c_seq ?_
  refine c_plain ?_
  refine x_pure 1 [(2, .int .i64 0)] _ _ _ (by kernel_rfl) ?_
  refine x_end rfl ?_
  refine k_then ?_
  refine c_norm [(0, .int .i64 k_0)] ⟨rfl, trivial⟩ (fun J => ?_)
  refine c_seq ?_
  refine c_plain ?_
  refine x_pure 1 [(3, .int .i64 0)] _ _ _ (by kernel_rfl) ?_
  refine x_end rfl ?_
  refine k_then ?_
  refine c_norm [(0, .int .i64 k_0), (3, .int .i64 0)] ⟨rfl, rfl, trivial⟩ (fun J => ?_)
  refine c_seq ?_
  refine c_block ?_
  obtain ⟨d1, hd1, h1⟩ := bind_some h
  obtain ⟨m1, hd1⟩ := loop_some hd1
  refine c_loop (loop_rule hmx (σ := Nat × Int × Int) (fun s => match s with | (_, k_s0, n_s3) => [(0, .int .i64 k_s0), (3, .int .i64 n_s3)]) (fun s w' => match s with | (m, k_s0, n_s3) => loopN code_ones_L1 m (k_s0, n_s3) = some d1 ∧ Ev [] w w' ∧ MS w' [[]] ∧ FR w.heap.size []) (fun s => s.1) (m1, k_0, 0) ⟨rfl, rfl, trivial⟩ ⟨hd1, hev, hms, hfr⟩ ?_)
  rintro ⟨m1, k_s0, n_s3⟩ J w1 ⟨hn1, hev, hms, hfr⟩
  rcases m1 with _ | m1
  · exact (loopN_zero hn1).elim
  obtain ⟨t1, h, hn1⟩ := bind_some hn1
  refine c_seq ?_
  refine c_seq ?_
  refine c_plain ?_
  refine x_pure 2 [(4, .int .i64 k_s0), (5, .bool (k_s0 != 0))] _ _ _ (by kernel_rfl) ?_
  refine x_end rfl ?_
  refine k_then ?_
  refine c_norm [(0, .int .i64 k_s0), (3, .int .i64 n_s3), (5, .bool (k_s0 != 0))] ⟨rfl, rfl, rfl, trivial⟩ (fun J => ?_)
  refine c_cond (k_s0 != 0) rfl (fun hb => ?_) (fun hb => ?_)
  · replace h := ite_t hb h
    refine c_skip ?_
    refine k_then ?_
    refine c_norm [(0, .int .i64 k_s0), (3, .int .i64 n_s3)] ⟨rfl, rfl, trivial⟩ (fun J => ?_)
    refine c_seq ?_
    refine c_block ?_
    refine c_plain ?_
    refine x_pure 3 [(10, .int .i64 n_s3), (11, .int .i64 (IntKind.i64.wrap (n_s3 + 1))), (3, .int .i64 (IntKind.i64.wrap (n_s3 + 1)))] _ _ _ (by kernel_rfl) ?_
    refine x_end rfl ?_
    refine k_block ?_
    refine k_then ?_
    refine c_norm [(0, .int .i64 k_s0), (3, .int .i64 (IntKind.i64.wrap (n_s3 + 1)))] ⟨rfl, rfl, trivial⟩ (fun J => ?_)
    refine c_plain ?_
    refine x_pure 5 [(6, .int .i64 k_s0), (7, .int .i64 k_s0), (8, .int .i64 (IntKind.i64.wrap (k_s0 - 1))), (9, .int .i64 (IntKind.i64.wrap ↑(BitVec.ofInt IntKind.i64.bits k_s0 &&& BitVec.ofInt IntKind.i64.bits (IntKind.i64.wrap (k_s0 - 1))).toNat)), (0, .int .i64 (IntKind.i64.wrap ↑(BitVec.ofInt IntKind.i64.bits k_s0 &&& BitVec.ofInt IntKind.i64.bits (IntKind.i64.wrap (k_s0 - 1))).toNat))] _ _ _ (by kernel_rfl) ?_
    refine x_end rfl ?_
    have hx := some_inj h
    subst hx
    exact k_then ⟨(m1, IntKind.i64.wrap ↑(BitVec.ofInt IntKind.i64.bits k_s0 &&& BitVec.ofInt IntKind.i64.bits (IntKind.i64.wrap (k_s0 - 1))).toNat, IntKind.i64.wrap (n_s3 + 1)), ⟨rfl, rfl, trivial⟩, ⟨hn1, hev, hms, hfr⟩, Nat.lt_succ_self _⟩
  · replace h := ite_f hb h
    refine c_exit ?_
    refine k_then_exit ?_
    have hx := some_inj h
    subst hx
    have hy := some_inj hn1
    subst hy
    replace h := h1
    refine k_then_exit ?_
    refine k_block_in ?_
    refine k_then ?_
    refine c_norm [(3, .int .i64 n_s3)] ⟨rfl, trivial⟩ (fun J => ?_)
    refine c_seq ?_
    refine c_plain ?_
    refine x_pure 2 [(12, .int .i64 n_s3), (2, .int .i64 n_s3)] _ _ _ (by kernel_rfl) ?_
    refine x_end rfl ?_
    refine k_then ?_
    refine c_norm [(2, .int .i64 n_s3)] ⟨rfl, trivial⟩ (fun J => ?_)
    refine c_ret ?_
    refine r_ret (r_one (.int .i64 n_s3) rfl ?_)
    have hx := some_inj h
    subst hx
    exact ⟨rfl, hev⟩
def code_Next_L5 (weight_2 : Int) (s : Int) : Option (Step Int ((Int × Int) ⊕ Int)) :=
match s with
| real_s8 =>
((code_ones real_s8).bind fun x6 =>
(if (decide (x6 > weight_2)) = true then
(if (decide ((IntKind.i64.wrap (real_s8 + (IntKind.i64.wrap ↑(BitVec.ofInt IntKind.i64.bits real_s8 &&& BitVec.ofInt IntKind.i64.bits (IntKind.i64.wrap (0 - real_s8))).toNat))) ≥ 4096)) = true then
some (.done (.inl (0, 15)))
else
some (.next (IntKind.i64.wrap (real_s8 + (IntKind.i64.wrap ↑(BitVec.ofInt IntKind.i64.bits real_s8 &&& BitVec.ofInt IntKind.i64.bits (IntKind.i64.wrap (0 - real_s8))).toNat)))))
else
some (.done (.inr real_s8))))

def code_Next_L10 (weight_2 : Int) (s : Int) : Option (Step Int ((Int × Int) ⊕ Int)) :=
match s with
| real_s8 =>
((code_ones real_s8).bind fun x11 =>
(if (decide (x11 > weight_2)) = true then
(if (decide ((IntKind.i64.wrap (real_s8 + (IntKind.i64.wrap ↑(BitVec.ofInt IntKind.i64.bits real_s8 &&& BitVec.ofInt IntKind.i64.bits (IntKind.i64.wrap (0 - real_s8))).toNat))) ≥ 4096)) = true then
some (.done (.inl (0, 15)))
else
some (.next (IntKind.i64.wrap (real_s8 + (IntKind.i64.wrap ↑(BitVec.ofInt IntKind.i64.bits real_s8 &&& BitVec.ofInt IntKind.i64.bits (IntKind.i64.wrap (0 - real_s8))).toNat)))))
else
some (.done (.inr real_s8))))

def code_Next (least_0 : Int) (round_1 : Int) (weight_2 : Int) : Option (Int × Int) :=
((code_form round_1 weight_2).bind fun x1 =>
(if (!x1) = true then
some (0, 2)
else
(if (decide (least_0 < 0)) = true then
some (0, 2)
else
(if (decide (least_0 ≥ 4096)) = true then
some (0, 15)
else
((code_missed round_1).bind fun x3 =>
(if (decide (least_0 > x3)) = true then
(if 0 ≤ round_1 then
(if 0 ≤ round_1 then
((loop (code_Next_L5 weight_2) (Int.fdiv (IntKind.i64.wrap ((IntKind.i64.wrap ((IntKind.i64.wrap (least_0 - x3)) + (IntKind.i64.wrap (1 * 2 ^ (min (Int.toNat (round_1)) IntKind.i64.bits))))) - 1)) (2 ^ (min (Int.toNat (round_1)) IntKind.i64.bits)))).bind fun d => match d with
| (.inl (t6__x6, t7__x7)) => some (t6__x6, t7__x7)
| (.inr real_x8) => (if 0 ≤ round_1 then
((code_missed round_1).bind fun x8 =>
(if (decide ((IntKind.i64.wrap ↑(BitVec.ofInt IntKind.i64.bits (IntKind.i64.wrap (real_x8 * 2 ^ (min (Int.toNat (round_1)) IntKind.i64.bits))) ||| BitVec.ofInt IntKind.i64.bits x8).toNat) < 4096)) = true then
some (IntKind.i64.wrap ↑(BitVec.ofInt IntKind.i64.bits (IntKind.i64.wrap (real_x8 * 2 ^ (min (Int.toNat (round_1)) IntKind.i64.bits))) ||| BitVec.ofInt IntKind.i64.bits x8).toNat, 0)
else
some (0, 15)))
else none))
else none)
else none)
else
((loop (code_Next_L10 weight_2) 0).bind fun d => match d with
| (.inl (t6__x6, t7__x7)) => some (t6__x6, t7__x7)
| (.inr real_x8) => (if 0 ≤ round_1 then
((code_missed round_1).bind fun x13 =>
(if (decide ((IntKind.i64.wrap ↑(BitVec.ofInt IntKind.i64.bits (IntKind.i64.wrap (real_x8 * 2 ^ (min (Int.toNat (round_1)) IntKind.i64.bits))) ||| BitVec.ofInt IntKind.i64.bits x13).toNat) < 4096)) = true then
some (IntKind.i64.wrap ↑(BitVec.ofInt IntKind.i64.bits (IntKind.i64.wrap (real_x8 * 2 ^ (min (Int.toNat (round_1)) IntKind.i64.bits))) ||| BitVec.ofInt IntKind.i64.bits x13).toNat, 0)
else
some (0, 15)))
else none))))))))

theorem code_Next_w (least_0 : Int) (round_1 : Int) (weight_2 : Int) (r : Int × Int) (w : World) (h : code_Next least_0 round_1 weight_2 = some r) : CallVC Try.prog 12 [.int .i64 least_0, .int .i64 round_1, .int .i64 weight_2] w fun v w' => v = .tuple #[.int .i64 r.1, .int .i64 r.2] ∧ Ev [] w w' := by
  refine calls_vc hmx Try.func12 (by kernel_rfl) rfl (rs := [.tmp 6, .tmp 7]) rfl (by kernel_rfl) (args := [.int .i64 least_0, .int .i64 round_1, .int .i64 weight_2]) rfl ?_
  have hev : Ev [] w w := Ev.refl _ _
  have hms : MS w [[]] := ⟨List.pairwise_singleton _ _, fun l hl b hb => by simp only [List.mem_singleton] at hl; subst hl; cases hb⟩
  have hfr : FR w.heap.size [] := FR.nil _
  refine c_seq ?_
  refine c_plain ?_
  refine x_pure 2 [(6, .int .i64 0), (7, .int .i64 0)] _ _ _ (by kernel_rfl) ?_
  refine x_end rfl ?_
  refine k_then ?_
  refine c_norm [(0, .int .i64 least_0), (1, .int .i64 round_1), (2, .int .i64 weight_2)] ⟨rfl, rfl, rfl, trivial⟩ (fun J => ?_)
  refine c_seq ?_
  refine c_seq ?_
  refine c_plain ?_
  refine x_pure 2 [(11, .int .i64 round_1), (12, .int .i64 weight_2)] _ _ _ (by kernel_rfl) ?_
  obtain ⟨x1, hx, h⟩ := bind_some h
  have hcall := code_form_w round_1 weight_2 _ w hx
  refine x_call 22 #[] #[] [.int .i64 round_1, .int .i64 weight_2] _ rfl rfl rfl rfl hcall ?_
  rintro v w2 ⟨rfl, he2⟩
  clear hcall hx
  refine ⟨.inl rfl, ?_⟩
  replace hms := hms.ev he2
  replace hev := hev.ext he2
  refine x_pure 2 [(14, .bool (!x1)), (15, .bool (!x1))] _ _ _ (by kernel_rfl) ?_
  refine x_split 15 (!x1) rfl (fun hb => ?_) (fun hb => ?_)
  · replace h := ite_t hb h
    refine x_pure 3 [(16, undef), (17, undef), (18, .bool true)] _ _ _ (by kernel_rfl) ?_
    refine x_end rfl ?_
    refine k_then ?_
    refine c_norm [(0, .int .i64 least_0), (1, .int .i64 round_1), (2, .int .i64 weight_2), (18, .bool true)] ⟨rfl, rfl, rfl, rfl, trivial⟩ (fun J => ?_)
    refine c_true rfl ?_
    refine c_seq ?_
    refine c_plain ?_
    refine x_pure 2 [(6, .int .i64 0), (7, .int .i64 2)] _ _ _ (by kernel_rfl) ?_
    refine x_end rfl ?_
    refine k_then ?_
    refine c_norm [(6, .int .i64 0), (7, .int .i64 2)] ⟨rfl, rfl, trivial⟩ (fun J => ?_)
    refine c_ret ?_
    refine k_then_ret ?_
    refine r_ret (r_two (.int .i64 0) (.int .i64 2) rfl rfl ?_)
    have hx := some_inj h
    subst hx
    exact ⟨rfl, hev⟩
  · replace h := ite_f hb h
    refine x_pure 3 [(16, .int .i64 least_0), (17, .bool (decide (least_0 < 0))), (18, .bool (decide (least_0 < 0)))] _ _ _ (by kernel_rfl) ?_
    refine x_end rfl ?_
    refine k_then ?_
    refine c_norm [(0, .int .i64 least_0), (1, .int .i64 round_1), (2, .int .i64 weight_2), (18, .bool (decide (least_0 < 0)))] ⟨rfl, rfl, rfl, rfl, trivial⟩ (fun J => ?_)
    refine c_cond (decide (least_0 < 0)) rfl (fun hb => ?_) (fun hb => ?_)
    · replace h := ite_t hb h
      refine c_seq ?_
      refine c_plain ?_
      refine x_pure 2 [(6, .int .i64 0), (7, .int .i64 2)] _ _ _ (by kernel_rfl) ?_
      refine x_end rfl ?_
      refine k_then ?_
      refine c_norm [(6, .int .i64 0), (7, .int .i64 2)] ⟨rfl, rfl, trivial⟩ (fun J => ?_)
      refine c_ret ?_
      refine k_then_ret ?_
      refine r_ret (r_two (.int .i64 0) (.int .i64 2) rfl rfl ?_)
      have hx := some_inj h
      subst hx
      exact ⟨rfl, hev⟩
    · replace h := ite_f hb h
      refine c_skip ?_
      refine k_then ?_
      refine c_norm [(0, .int .i64 least_0), (1, .int .i64 round_1), (2, .int .i64 weight_2)] ⟨rfl, rfl, rfl, trivial⟩ (fun J => ?_)
      refine c_seq ?_
      refine c_seq ?_
      refine c_plain ?_
      refine x_pure 2 [(19, .int .i64 least_0), (20, .bool (decide (least_0 ≥ 4096)))] _ _ _ (by kernel_rfl) ?_
      refine x_end rfl ?_
      refine k_then ?_
      refine c_norm [(0, .int .i64 least_0), (1, .int .i64 round_1), (2, .int .i64 weight_2), (20, .bool (decide (least_0 ≥ 4096)))] ⟨rfl, rfl, rfl, rfl, trivial⟩ (fun J => ?_)
      refine c_cond (decide (least_0 ≥ 4096)) rfl (fun hb => ?_) (fun hb => ?_)
      · replace h := ite_t hb h
        refine c_seq ?_
        refine c_plain ?_
        refine x_pure 2 [(6, .int .i64 0), (7, .int .i64 15)] _ _ _ (by kernel_rfl) ?_
        refine x_end rfl ?_
        refine k_then ?_
        refine c_norm [(6, .int .i64 0), (7, .int .i64 15)] ⟨rfl, rfl, trivial⟩ (fun J => ?_)
        refine c_ret ?_
        refine k_then_ret ?_
        refine r_ret (r_two (.int .i64 0) (.int .i64 15) rfl rfl ?_)
        have hx := some_inj h
        subst hx
        exact ⟨rfl, hev⟩
      · replace h := ite_f hb h
        refine c_skip ?_
        refine k_then ?_
        refine c_norm [(0, .int .i64 least_0), (1, .int .i64 round_1), (2, .int .i64 weight_2)] ⟨rfl, rfl, rfl, trivial⟩ (fun J => ?_)
        refine c_seq ?_
        refine c_plain ?_
        refine x_pure 1 [(8, .int .i64 0)] _ _ _ (by kernel_rfl) ?_
        refine x_end rfl ?_
        refine k_then ?_
        refine c_norm [(0, .int .i64 least_0), (1, .int .i64 round_1), (2, .int .i64 weight_2), (8, .int .i64 0)] ⟨rfl, rfl, rfl, rfl, trivial⟩ (fun J => ?_)
        refine c_seq ?_
        refine c_seq ?_
        refine c_plain ?_
        refine x_pure 1 [(21, .int .i64 round_1)] _ _ _ (by kernel_rfl) ?_
        obtain ⟨x3, hx, h⟩ := bind_some h
        have hcall := code_missed_w round_1 _ w2 hx
        refine x_call 23 #[] #[] [.int .i64 round_1] _ rfl rfl rfl rfl hcall ?_
        rintro v w4 ⟨rfl, he4⟩
        clear hcall hx
        refine ⟨.inl rfl, ?_⟩
        replace hms := hms.ev he4
        replace hev := hev.ext he4
        refine x_pure 1 [(9, .int .i64 x3)] _ _ _ (by kernel_rfl) ?_
        refine x_end rfl ?_
        refine k_then ?_
        refine c_norm [(0, .int .i64 least_0), (1, .int .i64 round_1), (2, .int .i64 weight_2), (8, .int .i64 0), (9, .int .i64 x3)] ⟨rfl, rfl, rfl, rfl, rfl, trivial⟩ (fun J => ?_)
        refine c_seq ?_
        refine c_plain ?_
        refine x_pure 3 [(23, .int .i64 least_0), (24, .int .i64 x3), (25, .bool (decide (least_0 > x3)))] _ _ _ (by kernel_rfl) ?_
        refine x_end rfl ?_
        refine k_then ?_
        refine c_norm [(0, .int .i64 least_0), (1, .int .i64 round_1), (2, .int .i64 weight_2), (8, .int .i64 0), (9, .int .i64 x3), (25, .bool (decide (least_0 > x3)))] ⟨rfl, rfl, rfl, rfl, rfl, rfl, trivial⟩ (fun J => ?_)
        refine c_cond (decide (least_0 > x3)) rfl (fun hb => ?_) (fun hb => ?_)
        · replace h := ite_t hb h
          refine c_plain ?_
          refine x_pure 4 [(26, .int .i64 least_0), (27, .int .i64 x3), (28, .int .i64 (IntKind.i64.wrap (least_0 - x3))), (29, .int .i64 round_1)] _ _ _ (by kernel_rfl) ?_
          refine x_binop (.int .i64 (IntKind.i64.wrap (1 * 2 ^ (min (Int.toNat (round_1)) IntKind.i64.bits)))) (.int .i64 1) (.int .i64 round_1) rfl rfl rfl rfl (vb_shl (guard_l h)) ?_
          replace h := guard_r h
          refine x_pure 3 [(31, .int .i64 (IntKind.i64.wrap ((IntKind.i64.wrap (least_0 - x3)) + (IntKind.i64.wrap (1 * 2 ^ (min (Int.toNat (round_1)) IntKind.i64.bits)))))), (32, .int .i64 (IntKind.i64.wrap ((IntKind.i64.wrap ((IntKind.i64.wrap (least_0 - x3)) + (IntKind.i64.wrap (1 * 2 ^ (min (Int.toNat (round_1)) IntKind.i64.bits))))) - 1))), (33, .int .i64 round_1)] _ _ _ (by kernel_rfl) ?_
          refine x_binop (.int .i64 (Int.fdiv (IntKind.i64.wrap ((IntKind.i64.wrap ((IntKind.i64.wrap (least_0 - x3)) + (IntKind.i64.wrap (1 * 2 ^ (min (Int.toNat (round_1)) IntKind.i64.bits))))) - 1)) (2 ^ (min (Int.toNat (round_1)) IntKind.i64.bits)))) (.int .i64 (IntKind.i64.wrap ((IntKind.i64.wrap ((IntKind.i64.wrap (least_0 - x3)) + (IntKind.i64.wrap (1 * 2 ^ (min (Int.toNat (round_1)) IntKind.i64.bits))))) - 1))) (.int .i64 round_1) rfl rfl rfl rfl (vb_shr (guard_l h)) ?_
          replace h := guard_r h
          refine x_pure 1 [(8, .int .i64 (Int.fdiv (IntKind.i64.wrap ((IntKind.i64.wrap ((IntKind.i64.wrap (least_0 - x3)) + (IntKind.i64.wrap (1 * 2 ^ (min (Int.toNat (round_1)) IntKind.i64.bits))))) - 1)) (2 ^ (min (Int.toNat (round_1)) IntKind.i64.bits))))] _ _ _ (by kernel_rfl) ?_
          refine x_end rfl ?_
          refine k_then ?_
          refine c_norm [(1, .int .i64 round_1), (2, .int .i64 weight_2), (8, .int .i64 (Int.fdiv (IntKind.i64.wrap ((IntKind.i64.wrap ((IntKind.i64.wrap (least_0 - x3)) + (IntKind.i64.wrap (1 * 2 ^ (min (Int.toNat (round_1)) IntKind.i64.bits))))) - 1)) (2 ^ (min (Int.toNat (round_1)) IntKind.i64.bits))))] ⟨rfl, rfl, rfl, trivial⟩ (fun J => ?_)
          refine c_seq ?_
          refine c_block ?_
          obtain ⟨d5, hd5, h5⟩ := bind_some h
          obtain ⟨m5, hd5⟩ := loop_some hd5
          refine c_loop (loop_rule hmx (σ := Nat × Int) (fun s => match s with | (_, real_s8) => [(1, .int .i64 round_1), (2, .int .i64 weight_2), (8, .int .i64 real_s8)]) (fun s w' => match s with | (m, real_s8) => loopN (code_Next_L5 weight_2) m real_s8 = some d5 ∧ Ev [] w w' ∧ MS w' [[]] ∧ FR w.heap.size []) (fun s => s.1) (m5, Int.fdiv (IntKind.i64.wrap ((IntKind.i64.wrap ((IntKind.i64.wrap (least_0 - x3)) + (IntKind.i64.wrap (1 * 2 ^ (min (Int.toNat (round_1)) IntKind.i64.bits))))) - 1)) (2 ^ (min (Int.toNat (round_1)) IntKind.i64.bits))) ⟨rfl, rfl, rfl, trivial⟩ ⟨hd5, hev, hms, hfr⟩ ?_)
          rintro ⟨m5, real_s8⟩ J w5 ⟨hn5, hev, hms, hfr⟩
          rcases m5 with _ | m5
          · exact (loopN_zero hn5).elim
          obtain ⟨t5, h, hn5⟩ := bind_some hn5
          refine c_seq ?_
          refine c_seq ?_
          refine c_plain ?_
          refine x_pure 1 [(35, .int .i64 real_s8)] _ _ _ (by kernel_rfl) ?_
          obtain ⟨x6, hx, h⟩ := bind_some h
          have hcall := code_ones_w real_s8 _ w5 hx
          refine x_call 24 #[] #[] [.int .i64 real_s8] _ rfl rfl rfl rfl hcall ?_
          rintro v w7 ⟨rfl, he7⟩
          clear hcall hx
          refine ⟨.inl rfl, ?_⟩
          replace hms := hms.ev he7
          replace hev := hev.ext he7
          refine x_pure 2 [(37, .int .i64 weight_2), (38, .bool (decide (x6 > weight_2)))] _ _ _ (by kernel_rfl) ?_
          refine x_end rfl ?_
          refine k_then ?_
          refine c_norm [(1, .int .i64 round_1), (2, .int .i64 weight_2), (8, .int .i64 real_s8), (38, .bool (decide (x6 > weight_2)))] ⟨rfl, rfl, rfl, rfl, trivial⟩ (fun J => ?_)
          refine c_cond (decide (x6 > weight_2)) rfl (fun hb => ?_) (fun hb => ?_)
          · replace h := ite_t hb h
            refine c_skip ?_
            refine k_then ?_
            refine c_norm [(1, .int .i64 round_1), (2, .int .i64 weight_2), (8, .int .i64 real_s8)] ⟨rfl, rfl, rfl, trivial⟩ (fun J => ?_)
            refine c_block ?_
            refine c_seq ?_
            refine c_plain ?_
            refine x_pure 7 [(39, .int .i64 real_s8), (40, .int .i64 real_s8), (41, .int .i64 real_s8), (42, .int .i64 (IntKind.i64.wrap (0 - real_s8))), (43, .int .i64 (IntKind.i64.wrap ↑(BitVec.ofInt IntKind.i64.bits real_s8 &&& BitVec.ofInt IntKind.i64.bits (IntKind.i64.wrap (0 - real_s8))).toNat)), (44, .int .i64 (IntKind.i64.wrap (real_s8 + (IntKind.i64.wrap ↑(BitVec.ofInt IntKind.i64.bits real_s8 &&& BitVec.ofInt IntKind.i64.bits (IntKind.i64.wrap (0 - real_s8))).toNat)))), (8, .int .i64 (IntKind.i64.wrap (real_s8 + (IntKind.i64.wrap ↑(BitVec.ofInt IntKind.i64.bits real_s8 &&& BitVec.ofInt IntKind.i64.bits (IntKind.i64.wrap (0 - real_s8))).toNat))))] _ _ _ (by kernel_rfl) ?_
            refine x_end rfl ?_
            refine k_then ?_
            refine c_norm [(1, .int .i64 round_1), (2, .int .i64 weight_2), (8, .int .i64 (IntKind.i64.wrap (real_s8 + (IntKind.i64.wrap ↑(BitVec.ofInt IntKind.i64.bits real_s8 &&& BitVec.ofInt IntKind.i64.bits (IntKind.i64.wrap (0 - real_s8))).toNat))))] ⟨rfl, rfl, rfl, trivial⟩ (fun J => ?_)
            refine c_seq ?_
            refine c_plain ?_
            refine x_pure 2 [(45, .int .i64 (IntKind.i64.wrap (real_s8 + (IntKind.i64.wrap ↑(BitVec.ofInt IntKind.i64.bits real_s8 &&& BitVec.ofInt IntKind.i64.bits (IntKind.i64.wrap (0 - real_s8))).toNat)))), (46, .bool (decide ((IntKind.i64.wrap (real_s8 + (IntKind.i64.wrap ↑(BitVec.ofInt IntKind.i64.bits real_s8 &&& BitVec.ofInt IntKind.i64.bits (IntKind.i64.wrap (0 - real_s8))).toNat))) ≥ 4096)))] _ _ _ (by kernel_rfl) ?_
            refine x_end rfl ?_
            refine k_then ?_
            refine c_norm [(1, .int .i64 round_1), (2, .int .i64 weight_2), (8, .int .i64 (IntKind.i64.wrap (real_s8 + (IntKind.i64.wrap ↑(BitVec.ofInt IntKind.i64.bits real_s8 &&& BitVec.ofInt IntKind.i64.bits (IntKind.i64.wrap (0 - real_s8))).toNat)))), (46, .bool (decide ((IntKind.i64.wrap (real_s8 + (IntKind.i64.wrap ↑(BitVec.ofInt IntKind.i64.bits real_s8 &&& BitVec.ofInt IntKind.i64.bits (IntKind.i64.wrap (0 - real_s8))).toNat))) ≥ 4096)))] ⟨rfl, rfl, rfl, rfl, trivial⟩ (fun J => ?_)
            refine c_cond (decide ((IntKind.i64.wrap (real_s8 + (IntKind.i64.wrap ↑(BitVec.ofInt IntKind.i64.bits real_s8 &&& BitVec.ofInt IntKind.i64.bits (IntKind.i64.wrap (0 - real_s8))).toNat))) ≥ 4096)) rfl (fun hb => ?_) (fun hb => ?_)
            · replace h := ite_t hb h
              refine c_seq ?_
              refine c_plain ?_
              refine x_pure 2 [(6, .int .i64 0), (7, .int .i64 15)] _ _ _ (by kernel_rfl) ?_
              refine x_end rfl ?_
              refine k_then ?_
              refine c_norm [(6, .int .i64 0), (7, .int .i64 15)] ⟨rfl, rfl, trivial⟩ (fun J => ?_)
              refine c_ret ?_
              refine k_block_ret ?_
              have hx := some_inj h
              subst hx
              have hy := some_inj hn5
              subst hy
              replace h := h5
              refine k_then_ret ?_
              refine k_block_ret ?_
              refine k_then_ret ?_
              refine r_ret (r_two (.int .i64 0) (.int .i64 15) rfl rfl ?_)
              have hx := some_inj h
              subst hx
              exact ⟨rfl, hev⟩
            · replace h := ite_f hb h
              refine c_skip ?_
              refine k_block ?_
              have hx := some_inj h
              subst hx
              exact k_then ⟨(m5, IntKind.i64.wrap (real_s8 + (IntKind.i64.wrap ↑(BitVec.ofInt IntKind.i64.bits real_s8 &&& BitVec.ofInt IntKind.i64.bits (IntKind.i64.wrap (0 - real_s8))).toNat))), ⟨rfl, rfl, rfl, trivial⟩, ⟨hn5, hev, hms, hfr⟩, Nat.lt_succ_self _⟩
          · replace h := ite_f hb h
            refine c_exit ?_
            refine k_then_exit ?_
            have hx := some_inj h
            subst hx
            have hy := some_inj hn5
            subst hy
            replace h := h5
            refine k_then_exit ?_
            refine k_block_in ?_
            refine k_then ?_
            refine c_norm [(1, .int .i64 round_1), (8, .int .i64 real_s8)] ⟨rfl, rfl, trivial⟩ (fun J => ?_)
            refine c_seq ?_
            refine c_seq ?_
            refine c_drawn [] [(0, false), (1, false), (2, false), (3, false), (4, false), (5, false), (6, false)] _ (by kernel_rfl) rfl ?_
            replace hms := hms.ev (Ev.drew w7)
            replace hev := hev.ext (Ev.drew w7)
            refine x_pure 2 [(47, .int .i64 real_s8), (48, .int .i64 round_1)] _ _ _ (by kernel_rfl) ?_
            refine x_binop (.int .i64 (IntKind.i64.wrap (real_s8 * 2 ^ (min (Int.toNat (round_1)) IntKind.i64.bits)))) (.int .i64 real_s8) (.int .i64 round_1) rfl rfl rfl rfl (vb_shl (guard_l h)) ?_
            replace h := guard_r h
            refine x_pure 1 [(50, .int .i64 round_1)] _ _ _ (by kernel_rfl) ?_
            obtain ⟨x8, hx, h⟩ := bind_some h
            have hcall := code_missed_w round_1 _ (w7).drew hx
            refine x_call 23 #[] #[] [.int .i64 round_1] _ rfl rfl rfl rfl hcall ?_
            rintro v w9 ⟨rfl, he9⟩
            clear hcall hx
            refine ⟨.inr he9, ?_⟩
            replace hms := hms.ev he9
            replace hev := hev.ext he9
            refine x_pure 2 [(52, .int .i64 (IntKind.i64.wrap ↑(BitVec.ofInt IntKind.i64.bits (IntKind.i64.wrap (real_s8 * 2 ^ (min (Int.toNat (round_1)) IntKind.i64.bits))) ||| BitVec.ofInt IntKind.i64.bits x8).toNat)), (10, .int .i64 (IntKind.i64.wrap ↑(BitVec.ofInt IntKind.i64.bits (IntKind.i64.wrap (real_s8 * 2 ^ (min (Int.toNat (round_1)) IntKind.i64.bits))) ||| BitVec.ofInt IntKind.i64.bits x8).toNat))] _ _ _ (by kernel_rfl) ?_
            refine x_end rfl ?_
            refine k_then ?_
            refine c_norm [(10, .int .i64 (IntKind.i64.wrap ↑(BitVec.ofInt IntKind.i64.bits (IntKind.i64.wrap (real_s8 * 2 ^ (min (Int.toNat (round_1)) IntKind.i64.bits))) ||| BitVec.ofInt IntKind.i64.bits x8).toNat))] ⟨rfl, trivial⟩ (fun J => ?_)
            refine c_seq ?_
            refine c_plain ?_
            refine x_pure 2 [(53, .int .i64 (IntKind.i64.wrap ↑(BitVec.ofInt IntKind.i64.bits (IntKind.i64.wrap (real_s8 * 2 ^ (min (Int.toNat (round_1)) IntKind.i64.bits))) ||| BitVec.ofInt IntKind.i64.bits x8).toNat)), (54, .bool (decide ((IntKind.i64.wrap ↑(BitVec.ofInt IntKind.i64.bits (IntKind.i64.wrap (real_s8 * 2 ^ (min (Int.toNat (round_1)) IntKind.i64.bits))) ||| BitVec.ofInt IntKind.i64.bits x8).toNat) < 4096)))] _ _ _ (by kernel_rfl) ?_
            refine x_end rfl ?_
            refine k_then ?_
            refine c_norm [(10, .int .i64 (IntKind.i64.wrap ↑(BitVec.ofInt IntKind.i64.bits (IntKind.i64.wrap (real_s8 * 2 ^ (min (Int.toNat (round_1)) IntKind.i64.bits))) ||| BitVec.ofInt IntKind.i64.bits x8).toNat)), (54, .bool (decide ((IntKind.i64.wrap ↑(BitVec.ofInt IntKind.i64.bits (IntKind.i64.wrap (real_s8 * 2 ^ (min (Int.toNat (round_1)) IntKind.i64.bits))) ||| BitVec.ofInt IntKind.i64.bits x8).toNat) < 4096)))] ⟨rfl, rfl, trivial⟩ (fun J => ?_)
            refine c_cond (decide ((IntKind.i64.wrap ↑(BitVec.ofInt IntKind.i64.bits (IntKind.i64.wrap (real_s8 * 2 ^ (min (Int.toNat (round_1)) IntKind.i64.bits))) ||| BitVec.ofInt IntKind.i64.bits x8).toNat) < 4096)) rfl (fun hb => ?_) (fun hb => ?_)
            · replace h := ite_t hb h
              refine c_seq ?_
              refine c_plain ?_
              refine x_pure 3 [(55, .int .i64 (IntKind.i64.wrap ↑(BitVec.ofInt IntKind.i64.bits (IntKind.i64.wrap (real_s8 * 2 ^ (min (Int.toNat (round_1)) IntKind.i64.bits))) ||| BitVec.ofInt IntKind.i64.bits x8).toNat)), (6, .int .i64 (IntKind.i64.wrap ↑(BitVec.ofInt IntKind.i64.bits (IntKind.i64.wrap (real_s8 * 2 ^ (min (Int.toNat (round_1)) IntKind.i64.bits))) ||| BitVec.ofInt IntKind.i64.bits x8).toNat)), (7, .int .i64 0)] _ _ _ (by kernel_rfl) ?_
              refine x_end rfl ?_
              refine k_then ?_
              refine c_norm [(6, .int .i64 (IntKind.i64.wrap ↑(BitVec.ofInt IntKind.i64.bits (IntKind.i64.wrap (real_s8 * 2 ^ (min (Int.toNat (round_1)) IntKind.i64.bits))) ||| BitVec.ofInt IntKind.i64.bits x8).toNat)), (7, .int .i64 0)] ⟨rfl, rfl, trivial⟩ (fun J => ?_)
              refine c_ret ?_
              refine k_then_ret ?_
              refine r_ret (r_two (.int .i64 (IntKind.i64.wrap ↑(BitVec.ofInt IntKind.i64.bits (IntKind.i64.wrap (real_s8 * 2 ^ (min (Int.toNat (round_1)) IntKind.i64.bits))) ||| BitVec.ofInt IntKind.i64.bits x8).toNat)) (.int .i64 0) rfl rfl ?_)
              have hx := some_inj h
              subst hx
              exact ⟨rfl, hev⟩
            · replace h := ite_f hb h
              refine c_skip ?_
              refine k_then ?_
              refine c_norm [] trivial (fun J => ?_)
              refine c_seq ?_
              refine c_plain ?_
              refine x_pure 2 [(6, .int .i64 0), (7, .int .i64 15)] _ _ _ (by kernel_rfl) ?_
              refine x_end rfl ?_
              refine k_then ?_
              refine c_norm [(6, .int .i64 0), (7, .int .i64 15)] ⟨rfl, rfl, trivial⟩ (fun J => ?_)
              refine c_ret ?_
              refine r_ret (r_two (.int .i64 0) (.int .i64 15) rfl rfl ?_)
              have hx := some_inj h
              subst hx
              exact ⟨rfl, hev⟩
        · replace h := ite_f hb h
          refine c_skip ?_
          refine k_then ?_
          refine c_norm [(1, .int .i64 round_1), (2, .int .i64 weight_2), (8, .int .i64 0)] ⟨rfl, rfl, rfl, trivial⟩ (fun J => ?_)
          refine c_seq ?_
          refine c_block ?_
          obtain ⟨d10, hd10, h10⟩ := bind_some h
          obtain ⟨m10, hd10⟩ := loop_some hd10
          refine c_loop (loop_rule hmx (σ := Nat × Int) (fun s => match s with | (_, real_s8) => [(1, .int .i64 round_1), (2, .int .i64 weight_2), (8, .int .i64 real_s8)]) (fun s w' => match s with | (m, real_s8) => loopN (code_Next_L10 weight_2) m real_s8 = some d10 ∧ Ev [] w w' ∧ MS w' [[]] ∧ FR w.heap.size []) (fun s => s.1) (m10, 0) ⟨rfl, rfl, rfl, trivial⟩ ⟨hd10, hev, hms, hfr⟩ ?_)
          rintro ⟨m10, real_s8⟩ J w10 ⟨hn10, hev, hms, hfr⟩
          rcases m10 with _ | m10
          · exact (loopN_zero hn10).elim
          obtain ⟨t10, h, hn10⟩ := bind_some hn10
          refine c_seq ?_
          refine c_seq ?_
          refine c_plain ?_
          refine x_pure 1 [(35, .int .i64 real_s8)] _ _ _ (by kernel_rfl) ?_
          obtain ⟨x11, hx, h⟩ := bind_some h
          have hcall := code_ones_w real_s8 _ w10 hx
          refine x_call 24 #[] #[] [.int .i64 real_s8] _ rfl rfl rfl rfl hcall ?_
          rintro v w12 ⟨rfl, he12⟩
          clear hcall hx
          refine ⟨.inl rfl, ?_⟩
          replace hms := hms.ev he12
          replace hev := hev.ext he12
          refine x_pure 2 [(37, .int .i64 weight_2), (38, .bool (decide (x11 > weight_2)))] _ _ _ (by kernel_rfl) ?_
          refine x_end rfl ?_
          refine k_then ?_
          refine c_norm [(1, .int .i64 round_1), (2, .int .i64 weight_2), (8, .int .i64 real_s8), (38, .bool (decide (x11 > weight_2)))] ⟨rfl, rfl, rfl, rfl, trivial⟩ (fun J => ?_)
          refine c_cond (decide (x11 > weight_2)) rfl (fun hb => ?_) (fun hb => ?_)
          · replace h := ite_t hb h
            refine c_skip ?_
            refine k_then ?_
            refine c_norm [(1, .int .i64 round_1), (2, .int .i64 weight_2), (8, .int .i64 real_s8)] ⟨rfl, rfl, rfl, trivial⟩ (fun J => ?_)
            refine c_block ?_
            refine c_seq ?_
            refine c_plain ?_
            refine x_pure 7 [(39, .int .i64 real_s8), (40, .int .i64 real_s8), (41, .int .i64 real_s8), (42, .int .i64 (IntKind.i64.wrap (0 - real_s8))), (43, .int .i64 (IntKind.i64.wrap ↑(BitVec.ofInt IntKind.i64.bits real_s8 &&& BitVec.ofInt IntKind.i64.bits (IntKind.i64.wrap (0 - real_s8))).toNat)), (44, .int .i64 (IntKind.i64.wrap (real_s8 + (IntKind.i64.wrap ↑(BitVec.ofInt IntKind.i64.bits real_s8 &&& BitVec.ofInt IntKind.i64.bits (IntKind.i64.wrap (0 - real_s8))).toNat)))), (8, .int .i64 (IntKind.i64.wrap (real_s8 + (IntKind.i64.wrap ↑(BitVec.ofInt IntKind.i64.bits real_s8 &&& BitVec.ofInt IntKind.i64.bits (IntKind.i64.wrap (0 - real_s8))).toNat))))] _ _ _ (by kernel_rfl) ?_
            refine x_end rfl ?_
            refine k_then ?_
            refine c_norm [(1, .int .i64 round_1), (2, .int .i64 weight_2), (8, .int .i64 (IntKind.i64.wrap (real_s8 + (IntKind.i64.wrap ↑(BitVec.ofInt IntKind.i64.bits real_s8 &&& BitVec.ofInt IntKind.i64.bits (IntKind.i64.wrap (0 - real_s8))).toNat))))] ⟨rfl, rfl, rfl, trivial⟩ (fun J => ?_)
            refine c_seq ?_
            refine c_plain ?_
            refine x_pure 2 [(45, .int .i64 (IntKind.i64.wrap (real_s8 + (IntKind.i64.wrap ↑(BitVec.ofInt IntKind.i64.bits real_s8 &&& BitVec.ofInt IntKind.i64.bits (IntKind.i64.wrap (0 - real_s8))).toNat)))), (46, .bool (decide ((IntKind.i64.wrap (real_s8 + (IntKind.i64.wrap ↑(BitVec.ofInt IntKind.i64.bits real_s8 &&& BitVec.ofInt IntKind.i64.bits (IntKind.i64.wrap (0 - real_s8))).toNat))) ≥ 4096)))] _ _ _ (by kernel_rfl) ?_
            refine x_end rfl ?_
            refine k_then ?_
            refine c_norm [(1, .int .i64 round_1), (2, .int .i64 weight_2), (8, .int .i64 (IntKind.i64.wrap (real_s8 + (IntKind.i64.wrap ↑(BitVec.ofInt IntKind.i64.bits real_s8 &&& BitVec.ofInt IntKind.i64.bits (IntKind.i64.wrap (0 - real_s8))).toNat)))), (46, .bool (decide ((IntKind.i64.wrap (real_s8 + (IntKind.i64.wrap ↑(BitVec.ofInt IntKind.i64.bits real_s8 &&& BitVec.ofInt IntKind.i64.bits (IntKind.i64.wrap (0 - real_s8))).toNat))) ≥ 4096)))] ⟨rfl, rfl, rfl, rfl, trivial⟩ (fun J => ?_)
            refine c_cond (decide ((IntKind.i64.wrap (real_s8 + (IntKind.i64.wrap ↑(BitVec.ofInt IntKind.i64.bits real_s8 &&& BitVec.ofInt IntKind.i64.bits (IntKind.i64.wrap (0 - real_s8))).toNat))) ≥ 4096)) rfl (fun hb => ?_) (fun hb => ?_)
            · replace h := ite_t hb h
              refine c_seq ?_
              refine c_plain ?_
              refine x_pure 2 [(6, .int .i64 0), (7, .int .i64 15)] _ _ _ (by kernel_rfl) ?_
              refine x_end rfl ?_
              refine k_then ?_
              refine c_norm [(6, .int .i64 0), (7, .int .i64 15)] ⟨rfl, rfl, trivial⟩ (fun J => ?_)
              refine c_ret ?_
              refine k_block_ret ?_
              have hx := some_inj h
              subst hx
              have hy := some_inj hn10
              subst hy
              replace h := h10
              refine k_then_ret ?_
              refine k_block_ret ?_
              refine k_then_ret ?_
              refine r_ret (r_two (.int .i64 0) (.int .i64 15) rfl rfl ?_)
              have hx := some_inj h
              subst hx
              exact ⟨rfl, hev⟩
            · replace h := ite_f hb h
              refine c_skip ?_
              refine k_block ?_
              have hx := some_inj h
              subst hx
              exact k_then ⟨(m10, IntKind.i64.wrap (real_s8 + (IntKind.i64.wrap ↑(BitVec.ofInt IntKind.i64.bits real_s8 &&& BitVec.ofInt IntKind.i64.bits (IntKind.i64.wrap (0 - real_s8))).toNat))), ⟨rfl, rfl, rfl, trivial⟩, ⟨hn10, hev, hms, hfr⟩, Nat.lt_succ_self _⟩
          · replace h := ite_f hb h
            refine c_exit ?_
            refine k_then_exit ?_
            have hx := some_inj h
            subst hx
            have hy := some_inj hn10
            subst hy
            replace h := h10
            refine k_then_exit ?_
            refine k_block_in ?_
            refine k_then ?_
            refine c_norm [(1, .int .i64 round_1), (8, .int .i64 real_s8)] ⟨rfl, rfl, trivial⟩ (fun J => ?_)
            refine c_seq ?_
            refine c_seq ?_
            refine c_drawn [] [(0, false), (1, false), (2, false), (3, false), (4, false), (5, false), (6, false)] _ (by kernel_rfl) rfl ?_
            replace hms := hms.ev (Ev.drew w12)
            replace hev := hev.ext (Ev.drew w12)
            refine x_pure 2 [(47, .int .i64 real_s8), (48, .int .i64 round_1)] _ _ _ (by kernel_rfl) ?_
            refine x_binop (.int .i64 (IntKind.i64.wrap (real_s8 * 2 ^ (min (Int.toNat (round_1)) IntKind.i64.bits)))) (.int .i64 real_s8) (.int .i64 round_1) rfl rfl rfl rfl (vb_shl (guard_l h)) ?_
            replace h := guard_r h
            refine x_pure 1 [(50, .int .i64 round_1)] _ _ _ (by kernel_rfl) ?_
            obtain ⟨x13, hx, h⟩ := bind_some h
            have hcall := code_missed_w round_1 _ (w12).drew hx
            refine x_call 23 #[] #[] [.int .i64 round_1] _ rfl rfl rfl rfl hcall ?_
            rintro v w14 ⟨rfl, he14⟩
            clear hcall hx
            refine ⟨.inr he14, ?_⟩
            replace hms := hms.ev he14
            replace hev := hev.ext he14
            refine x_pure 2 [(52, .int .i64 (IntKind.i64.wrap ↑(BitVec.ofInt IntKind.i64.bits (IntKind.i64.wrap (real_s8 * 2 ^ (min (Int.toNat (round_1)) IntKind.i64.bits))) ||| BitVec.ofInt IntKind.i64.bits x13).toNat)), (10, .int .i64 (IntKind.i64.wrap ↑(BitVec.ofInt IntKind.i64.bits (IntKind.i64.wrap (real_s8 * 2 ^ (min (Int.toNat (round_1)) IntKind.i64.bits))) ||| BitVec.ofInt IntKind.i64.bits x13).toNat))] _ _ _ (by kernel_rfl) ?_
            refine x_end rfl ?_
            refine k_then ?_
            refine c_norm [(10, .int .i64 (IntKind.i64.wrap ↑(BitVec.ofInt IntKind.i64.bits (IntKind.i64.wrap (real_s8 * 2 ^ (min (Int.toNat (round_1)) IntKind.i64.bits))) ||| BitVec.ofInt IntKind.i64.bits x13).toNat))] ⟨rfl, trivial⟩ (fun J => ?_)
            refine c_seq ?_
            refine c_plain ?_
            refine x_pure 2 [(53, .int .i64 (IntKind.i64.wrap ↑(BitVec.ofInt IntKind.i64.bits (IntKind.i64.wrap (real_s8 * 2 ^ (min (Int.toNat (round_1)) IntKind.i64.bits))) ||| BitVec.ofInt IntKind.i64.bits x13).toNat)), (54, .bool (decide ((IntKind.i64.wrap ↑(BitVec.ofInt IntKind.i64.bits (IntKind.i64.wrap (real_s8 * 2 ^ (min (Int.toNat (round_1)) IntKind.i64.bits))) ||| BitVec.ofInt IntKind.i64.bits x13).toNat) < 4096)))] _ _ _ (by kernel_rfl) ?_
            refine x_end rfl ?_
            refine k_then ?_
            refine c_norm [(10, .int .i64 (IntKind.i64.wrap ↑(BitVec.ofInt IntKind.i64.bits (IntKind.i64.wrap (real_s8 * 2 ^ (min (Int.toNat (round_1)) IntKind.i64.bits))) ||| BitVec.ofInt IntKind.i64.bits x13).toNat)), (54, .bool (decide ((IntKind.i64.wrap ↑(BitVec.ofInt IntKind.i64.bits (IntKind.i64.wrap (real_s8 * 2 ^ (min (Int.toNat (round_1)) IntKind.i64.bits))) ||| BitVec.ofInt IntKind.i64.bits x13).toNat) < 4096)))] ⟨rfl, rfl, trivial⟩ (fun J => ?_)
            refine c_cond (decide ((IntKind.i64.wrap ↑(BitVec.ofInt IntKind.i64.bits (IntKind.i64.wrap (real_s8 * 2 ^ (min (Int.toNat (round_1)) IntKind.i64.bits))) ||| BitVec.ofInt IntKind.i64.bits x13).toNat) < 4096)) rfl (fun hb => ?_) (fun hb => ?_)
            · replace h := ite_t hb h
              refine c_seq ?_
              refine c_plain ?_
              refine x_pure 3 [(55, .int .i64 (IntKind.i64.wrap ↑(BitVec.ofInt IntKind.i64.bits (IntKind.i64.wrap (real_s8 * 2 ^ (min (Int.toNat (round_1)) IntKind.i64.bits))) ||| BitVec.ofInt IntKind.i64.bits x13).toNat)), (6, .int .i64 (IntKind.i64.wrap ↑(BitVec.ofInt IntKind.i64.bits (IntKind.i64.wrap (real_s8 * 2 ^ (min (Int.toNat (round_1)) IntKind.i64.bits))) ||| BitVec.ofInt IntKind.i64.bits x13).toNat)), (7, .int .i64 0)] _ _ _ (by kernel_rfl) ?_
              refine x_end rfl ?_
              refine k_then ?_
              refine c_norm [(6, .int .i64 (IntKind.i64.wrap ↑(BitVec.ofInt IntKind.i64.bits (IntKind.i64.wrap (real_s8 * 2 ^ (min (Int.toNat (round_1)) IntKind.i64.bits))) ||| BitVec.ofInt IntKind.i64.bits x13).toNat)), (7, .int .i64 0)] ⟨rfl, rfl, trivial⟩ (fun J => ?_)
              refine c_ret ?_
              refine k_then_ret ?_
              refine r_ret (r_two (.int .i64 (IntKind.i64.wrap ↑(BitVec.ofInt IntKind.i64.bits (IntKind.i64.wrap (real_s8 * 2 ^ (min (Int.toNat (round_1)) IntKind.i64.bits))) ||| BitVec.ofInt IntKind.i64.bits x13).toNat)) (.int .i64 0) rfl rfl ?_)
              have hx := some_inj h
              subst hx
              exact ⟨rfl, hev⟩
            · replace h := ite_f hb h
              refine c_skip ?_
              refine k_then ?_
              refine c_norm [] trivial (fun J => ?_)
              refine c_seq ?_
              refine c_plain ?_
              refine x_pure 2 [(6, .int .i64 0), (7, .int .i64 15)] _ _ _ (by kernel_rfl) ?_
              refine x_end rfl ?_
              refine k_then ?_
              refine c_norm [(6, .int .i64 0), (7, .int .i64 15)] ⟨rfl, rfl, trivial⟩ (fun J => ?_)
              refine c_ret ?_
              refine r_ret (r_two (.int .i64 0) (.int .i64 15) rfl rfl ?_)
              have hx := some_inj h
              subst hx
              exact ⟨rfl, hev⟩
def code_Is (k_0 : Int) (round_1 : Int) (weight_2 : Int) : Option Bool :=
((code_form round_1 weight_2).bind fun x1 =>
(if x1 = true then
((code_in k_0 0 4095).bind fun x3 =>
(if x3 = true then
((code_missed round_1).bind fun x5 =>
((code_missed round_1).bind fun x7 =>
(if ((IntKind.i64.wrap ↑(BitVec.ofInt IntKind.i64.bits k_0 &&& BitVec.ofInt IntKind.i64.bits x5).toNat) == x7) = true then
(if 0 ≤ round_1 then
((code_ones (Int.fdiv k_0 (2 ^ (min (Int.toNat (round_1)) IntKind.i64.bits)))).bind fun x9 =>
some (decide (x9 ≤ weight_2)))
else none)
else
some false)))
else
some false))
else
some false))

theorem code_Is_w (k_0 : Int) (round_1 : Int) (weight_2 : Int) (r : Bool) (w : World) (h : code_Is k_0 round_1 weight_2 = some r) : CallVC Try.prog 13 [.int .i64 k_0, .int .i64 round_1, .int .i64 weight_2] w fun v w' => v = .bool r ∧ Ev [] w w' := by
  refine calls_vc hmx Try.func13 (by kernel_rfl) rfl (rs := [.tmp 6]) rfl (by kernel_rfl) (args := [.int .i64 k_0, .int .i64 round_1, .int .i64 weight_2]) rfl ?_
  have hev : Ev [] w w := Ev.refl _ _
  have hms : MS w [[]] := ⟨List.pairwise_singleton _ _, fun l hl b hb => by simp only [List.mem_singleton] at hl; subst hl; cases hb⟩
  have hfr : FR w.heap.size [] := FR.nil _
  refine c_seq ?_
  refine c_plain ?_
  refine x_pure 1 [(6, .bool false)] _ _ _ (by kernel_rfl) ?_
  refine x_end rfl ?_
  refine k_then ?_
  refine c_norm [(0, .int .i64 k_0), (1, .int .i64 round_1), (2, .int .i64 weight_2)] ⟨rfl, rfl, rfl, trivial⟩ (fun J => ?_)
  refine c_seq ?_
  refine c_plain ?_
  refine x_pure 2 [(7, .int .i64 round_1), (8, .int .i64 weight_2)] _ _ _ (by kernel_rfl) ?_
  obtain ⟨x1, hx, h⟩ := bind_some h
  have hcall := code_form_w round_1 weight_2 _ w hx
  refine x_call 22 #[] #[] [.int .i64 round_1, .int .i64 weight_2] _ rfl rfl rfl rfl hcall ?_
  rintro v w2 ⟨rfl, he2⟩
  clear hcall hx
  refine ⟨.inl rfl, ?_⟩
  replace hms := hms.ev he2
  replace hev := hev.ext he2
  refine x_pure 1 [(10, .bool x1)] _ _ _ (by kernel_rfl) ?_
  refine x_split 10 x1 rfl (fun hb => ?_) (fun hb => ?_)
  · replace h := ite_t hb h
    refine x_pure 1 [(11, .int .i64 k_0)] _ _ _ (by kernel_rfl) ?_
    obtain ⟨x3, hx, h⟩ := bind_some h
    have hcall := code_in_w k_0 0 4095 _ w2 hx
    refine x_call 25 #[] #[] [.int .i64 k_0, .int .i64 0, .int .i64 4095] _ rfl rfl rfl rfl hcall ?_
    rintro v w4 ⟨rfl, he4⟩
    clear hcall hx
    refine ⟨.inl rfl, ?_⟩
    replace hms := hms.ev he4
    replace hev := hev.ext he4
    refine x_pure 2 [(13, .bool x3), (14, .bool x3)] _ _ _ (by kernel_rfl) ?_
    refine x_split 14 x3 rfl (fun hb => ?_) (fun hb => ?_)
    · replace h := ite_t hb h
      refine x_pure 2 [(15, .int .i64 k_0), (16, .int .i64 round_1)] _ _ _ (by kernel_rfl) ?_
      obtain ⟨x5, hx, h⟩ := bind_some h
      have hcall := code_missed_w round_1 _ w4 hx
      refine x_call 23 #[] #[] [.int .i64 round_1] _ rfl rfl rfl rfl hcall ?_
      rintro v w6 ⟨rfl, he6⟩
      clear hcall hx
      refine ⟨.inl rfl, ?_⟩
      replace hms := hms.ev he6
      replace hev := hev.ext he6
      refine x_pure 2 [(18, .int .i64 (IntKind.i64.wrap ↑(BitVec.ofInt IntKind.i64.bits k_0 &&& BitVec.ofInt IntKind.i64.bits x5).toNat)), (19, .int .i64 round_1)] _ _ _ (by kernel_rfl) ?_
      obtain ⟨x7, hx, h⟩ := bind_some h
      have hcall := code_missed_w round_1 _ w6 hx
      refine x_call 23 #[] #[] [.int .i64 round_1] _ rfl rfl rfl rfl hcall ?_
      rintro v w8 ⟨rfl, he8⟩
      clear hcall hx
      refine ⟨.inl rfl, ?_⟩
      replace hms := hms.ev he8
      replace hev := hev.ext he8
      refine x_pure 3 [(21, .bool ((IntKind.i64.wrap ↑(BitVec.ofInt IntKind.i64.bits k_0 &&& BitVec.ofInt IntKind.i64.bits x5).toNat) == x7)), (22, .bool ((IntKind.i64.wrap ↑(BitVec.ofInt IntKind.i64.bits k_0 &&& BitVec.ofInt IntKind.i64.bits x5).toNat) == x7)), (23, .bool ((IntKind.i64.wrap ↑(BitVec.ofInt IntKind.i64.bits k_0 &&& BitVec.ofInt IntKind.i64.bits x5).toNat) == x7))] _ _ _ (by kernel_rfl) ?_
      refine x_split 23 ((IntKind.i64.wrap ↑(BitVec.ofInt IntKind.i64.bits k_0 &&& BitVec.ofInt IntKind.i64.bits x5).toNat) == x7) rfl (fun hb => ?_) (fun hb => ?_)
      · replace h := ite_t hb h
        refine x_pure 2 [(24, .int .i64 k_0), (25, .int .i64 round_1)] _ _ _ (by kernel_rfl) ?_
        refine x_binop (.int .i64 (Int.fdiv k_0 (2 ^ (min (Int.toNat (round_1)) IntKind.i64.bits)))) (.int .i64 k_0) (.int .i64 round_1) rfl rfl rfl rfl (vb_shr (guard_l h)) ?_
        replace h := guard_r h
        obtain ⟨x9, hx, h⟩ := bind_some h
        have hcall := code_ones_w (Int.fdiv k_0 (2 ^ (min (Int.toNat (round_1)) IntKind.i64.bits))) _ w8 hx
        refine x_call 24 #[] #[] [.int .i64 (Int.fdiv k_0 (2 ^ (min (Int.toNat (round_1)) IntKind.i64.bits)))] _ rfl rfl rfl rfl hcall ?_
        rintro v w10 ⟨rfl, he10⟩
        clear hcall hx
        refine ⟨.inl rfl, ?_⟩
        replace hms := hms.ev he10
        replace hev := hev.ext he10
        refine x_pure 4 [(28, .int .i64 weight_2), (29, .bool (decide (x9 ≤ weight_2))), (30, .bool (decide (x9 ≤ weight_2))), (6, .bool (decide (x9 ≤ weight_2)))] _ _ _ (by kernel_rfl) ?_
        refine x_end rfl ?_
        refine k_then ?_
        refine c_norm [(6, .bool (decide (x9 ≤ weight_2)))] ⟨rfl, trivial⟩ (fun J => ?_)
        refine c_ret ?_
        refine r_ret (r_one (.bool (decide (x9 ≤ weight_2))) rfl ?_)
        have hx := some_inj h
        subst hx
        exact ⟨rfl, hev⟩
      · replace h := ite_f hb h
        refine x_pure 8 [(24, undef), (25, undef), (26, undef), (27, undef), (28, undef), (29, undef), (30, .bool false), (6, .bool false)] _ _ _ (by kernel_rfl) ?_
        refine x_end rfl ?_
        refine k_then ?_
        refine c_norm [(6, .bool false)] ⟨rfl, trivial⟩ (fun J => ?_)
        refine c_ret ?_
        refine r_ret (r_one (.bool false) rfl ?_)
        have hx := some_inj h
        subst hx
        exact ⟨rfl, hev⟩
    · replace h := ite_f hb h
      refine x_pure 17 [(15, undef), (16, undef), (17, undef), (18, undef), (19, undef), (20, undef), (21, undef), (22, .bool false), (23, .bool false), (24, undef), (25, undef), (26, undef), (27, undef), (28, undef), (29, undef), (30, .bool false), (6, .bool false)] _ _ _ (by kernel_rfl) ?_
      refine x_end rfl ?_
      refine k_then ?_
      refine c_norm [(6, .bool false)] ⟨rfl, trivial⟩ (fun J => ?_)
      refine c_ret ?_
      refine r_ret (r_one (.bool false) rfl ?_)
      have hx := some_inj h
      subst hx
      exact ⟨rfl, hev⟩
  · replace h := ite_f hb h
    refine x_pure 21 [(11, undef), (12, undef), (13, .bool false), (14, .bool false), (15, undef), (16, undef), (17, undef), (18, undef), (19, undef), (20, undef), (21, undef), (22, .bool false), (23, .bool false), (24, undef), (25, undef), (26, undef), (27, undef), (28, undef), (29, undef), (30, .bool false), (6, .bool false)] _ _ _ (by kernel_rfl) ?_
    refine x_end rfl ?_
    refine k_then ?_
    refine c_norm [(6, .bool false)] ⟨rfl, trivial⟩ (fun J => ?_)
    refine c_ret ?_
    refine r_ret (r_one (.bool false) rfl ?_)
    have hx := some_inj h
    subst hx
    exact ⟨rfl, hev⟩
def code_binomial_L1 (n_0 : Int) (k_1 : Int) (s : Int × Int) : Option (Step (Int × Int) Int) :=
match s with
| (out_s5, i_s6) =>
(if (decide (i_s6 ≤ k_1)) = true then
(if i_s6 ≠ 0 then
some (.next (IntKind.i64.wrap (Int.tdiv (IntKind.i64.wrap (out_s5 * (IntKind.i64.wrap ((IntKind.i64.wrap (n_0 - i_s6)) + 1)))) i_s6), IntKind.i64.wrap (i_s6 + 1)))
else none)
else
some (.done out_s5))

def code_binomial (n_0 : Int) (k_1 : Int) : Option Int :=
((loop (code_binomial_L1 n_0 k_1) (1, 1)).bind fun d => match d with
| out_x5 => some out_x5)

theorem code_binomial_w (n_0 : Int) (k_1 : Int) (r : Int) (w : World) (h : code_binomial n_0 k_1 = some r) : CallVC Try.prog 35 [.int .i64 n_0, .int .i64 k_1] w fun v w' => v = .int .i64 r ∧ Ev [] w w' := by
  refine calls_vc hmx Try.func35 (by kernel_rfl) rfl (rs := [.tmp 4]) rfl (by kernel_rfl) (args := [.int .i64 n_0, .int .i64 k_1]) rfl ?_
  have hev : Ev [] w w := Ev.refl _ _
  have hms : MS w [[]] := ⟨List.pairwise_singleton _ _, fun l hl b hb => by simp only [List.mem_singleton] at hl; subst hl; cases hb⟩
  have hfr : FR w.heap.size [] := FR.nil _
  refine c_seq ?_
  refine c_plain ?_
  refine x_pure 1 [(4, .int .i64 0)] _ _ _ (by kernel_rfl) ?_
  refine x_end rfl ?_
  refine k_then ?_
  refine c_norm [(0, .int .i64 n_0), (1, .int .i64 k_1)] ⟨rfl, rfl, trivial⟩ (fun J => ?_)
  refine c_seq ?_
  refine c_plain ?_
  refine x_pure 1 [(5, .int .i64 1)] _ _ _ (by kernel_rfl) ?_
  refine x_end rfl ?_
  refine k_then ?_
  refine c_norm [(0, .int .i64 n_0), (1, .int .i64 k_1), (5, .int .i64 1)] ⟨rfl, rfl, rfl, trivial⟩ (fun J => ?_)
  refine c_seq ?_
  refine c_seq ?_
  refine c_plain ?_
  refine x_pure 1 [(6, .int .i64 1)] _ _ _ (by kernel_rfl) ?_
  refine x_end rfl ?_
  refine k_then ?_
  refine c_norm [(0, .int .i64 n_0), (1, .int .i64 k_1), (5, .int .i64 1), (6, .int .i64 1)] ⟨rfl, rfl, rfl, rfl, trivial⟩ (fun J => ?_)
  refine c_block ?_
  obtain ⟨d1, hd1, h1⟩ := bind_some h
  obtain ⟨m1, hd1⟩ := loop_some hd1
  refine c_loop (loop_rule hmx (σ := Nat × Int × Int) (fun s => match s with | (_, out_s5, i_s6) => [(0, .int .i64 n_0), (1, .int .i64 k_1), (5, .int .i64 out_s5), (6, .int .i64 i_s6)]) (fun s w' => match s with | (m, out_s5, i_s6) => loopN (code_binomial_L1 n_0 k_1) m (out_s5, i_s6) = some d1 ∧ Ev [] w w' ∧ MS w' [[]] ∧ FR w.heap.size []) (fun s => s.1) (m1, 1, 1) ⟨rfl, rfl, rfl, rfl, trivial⟩ ⟨hd1, hev, hms, hfr⟩ ?_)
  rintro ⟨m1, out_s5, i_s6⟩ J w1 ⟨hn1, hev, hms, hfr⟩
  rcases m1 with _ | m1
  · exact (loopN_zero hn1).elim
  obtain ⟨t1, h, hn1⟩ := bind_some hn1
  refine c_seq ?_
  refine c_seq ?_
  refine c_plain ?_
  refine x_pure 3 [(7, .int .i64 i_s6), (8, .int .i64 k_1), (9, .bool (decide (i_s6 ≤ k_1)))] _ _ _ (by kernel_rfl) ?_
  refine x_end rfl ?_
  refine k_then ?_
  refine c_norm [(0, .int .i64 n_0), (1, .int .i64 k_1), (5, .int .i64 out_s5), (6, .int .i64 i_s6), (9, .bool (decide (i_s6 ≤ k_1)))] ⟨rfl, rfl, rfl, rfl, rfl, trivial⟩ (fun J => ?_)
  refine c_cond (decide (i_s6 ≤ k_1)) rfl (fun hb => ?_) (fun hb => ?_)
  · replace h := ite_t hb h
    refine c_skip ?_
    refine k_then ?_
    refine c_norm [(0, .int .i64 n_0), (1, .int .i64 k_1), (5, .int .i64 out_s5), (6, .int .i64 i_s6)] ⟨rfl, rfl, rfl, rfl, trivial⟩ (fun J => ?_)
    refine c_seq ?_
    refine c_block ?_
    refine c_plain ?_
    refine x_pure 7 [(12, .int .i64 out_s5), (13, .int .i64 n_0), (14, .int .i64 i_s6), (15, .int .i64 (IntKind.i64.wrap (n_0 - i_s6))), (16, .int .i64 (IntKind.i64.wrap ((IntKind.i64.wrap (n_0 - i_s6)) + 1))), (17, .int .i64 (IntKind.i64.wrap (out_s5 * (IntKind.i64.wrap ((IntKind.i64.wrap (n_0 - i_s6)) + 1))))), (18, .int .i64 i_s6)] _ _ _ (by kernel_rfl) ?_
    refine x_binop (.int .i64 (IntKind.i64.wrap (Int.tdiv (IntKind.i64.wrap (out_s5 * (IntKind.i64.wrap ((IntKind.i64.wrap (n_0 - i_s6)) + 1)))) i_s6))) (.int .i64 (IntKind.i64.wrap (out_s5 * (IntKind.i64.wrap ((IntKind.i64.wrap (n_0 - i_s6)) + 1))))) (.int .i64 i_s6) rfl rfl rfl rfl (vb_quo (guard_l h)) ?_
    replace h := guard_r h
    refine x_pure 1 [(5, .int .i64 (IntKind.i64.wrap (Int.tdiv (IntKind.i64.wrap (out_s5 * (IntKind.i64.wrap ((IntKind.i64.wrap (n_0 - i_s6)) + 1)))) i_s6)))] _ _ _ (by kernel_rfl) ?_
    refine x_end rfl ?_
    refine k_block ?_
    refine k_then ?_
    refine c_norm [(0, .int .i64 n_0), (1, .int .i64 k_1), (5, .int .i64 (IntKind.i64.wrap (Int.tdiv (IntKind.i64.wrap (out_s5 * (IntKind.i64.wrap ((IntKind.i64.wrap (n_0 - i_s6)) + 1)))) i_s6))), (6, .int .i64 i_s6)] ⟨rfl, rfl, rfl, rfl, trivial⟩ (fun J => ?_)
    refine c_plain ?_
    refine x_pure 3 [(10, .int .i64 i_s6), (11, .int .i64 (IntKind.i64.wrap (i_s6 + 1))), (6, .int .i64 (IntKind.i64.wrap (i_s6 + 1)))] _ _ _ (by kernel_rfl) ?_
    refine x_end rfl ?_
    have hx := some_inj h
    subst hx
    exact k_then ⟨(m1, IntKind.i64.wrap (Int.tdiv (IntKind.i64.wrap (out_s5 * (IntKind.i64.wrap ((IntKind.i64.wrap (n_0 - i_s6)) + 1)))) i_s6), IntKind.i64.wrap (i_s6 + 1)), ⟨rfl, rfl, rfl, rfl, trivial⟩, ⟨hn1, hev, hms, hfr⟩, Nat.lt_succ_self _⟩
  · replace h := ite_f hb h
    refine c_exit ?_
    refine k_then_exit ?_
    have hx := some_inj h
    subst hx
    have hy := some_inj hn1
    subst hy
    replace h := h1
    refine k_then_exit ?_
    refine k_block_in ?_
    refine k_then ?_
    refine c_norm [(5, .int .i64 out_s5)] ⟨rfl, trivial⟩ (fun J => ?_)
    refine c_seq ?_
    refine c_plain ?_
    refine x_pure 2 [(20, .int .i64 out_s5), (4, .int .i64 out_s5)] _ _ _ (by kernel_rfl) ?_
    refine x_end rfl ?_
    refine k_then ?_
    refine c_norm [(4, .int .i64 out_s5)] ⟨rfl, trivial⟩ (fun J => ?_)
    refine c_ret ?_
    refine r_ret (r_one (.int .i64 out_s5) rfl ?_)
    have hx := some_inj h
    subst hx
    exact ⟨rfl, hev⟩
def code_count_L1 (steps_0 : Int) (round_1 : Int) (weight_2 : Int) (s : Int × Int) : Option (Step (Int × Int) Int) :=
match s with
| (n_s7, ones_s8) =>
(if (decide (ones_s8 ≤ (if (IntKind.i64.wrap (steps_0 - round_1)) < weight_2 then (IntKind.i64.wrap (steps_0 - round_1)) else weight_2))) = true then
((code_binomial (IntKind.i64.wrap (steps_0 - round_1)) ones_s8).bind fun x2 =>
some (.next (IntKind.i64.wrap (n_s7 + x2), IntKind.i64.wrap (ones_s8 + 1))))
else
some (.done n_s7))

def code_count (steps_0 : Int) (round_1 : Int) (weight_2 : Int) : Option Int :=
((loop (code_count_L1 steps_0 round_1 weight_2) (0, 0)).bind fun d => match d with
| n_x7 => some n_x7)

theorem code_count_w (steps_0 : Int) (round_1 : Int) (weight_2 : Int) (r : Int) (w : World) (h : code_count steps_0 round_1 weight_2 = some r) : CallVC Try.prog 26 [.int .i64 steps_0, .int .i64 round_1, .int .i64 weight_2] w fun v w' => v = .int .i64 r ∧ Ev [] w w' := by
  refine calls_vc hmx Try.func26 (by kernel_rfl) rfl (rs := [.tmp 6]) rfl (by kernel_rfl) (args := [.int .i64 steps_0, .int .i64 round_1, .int .i64 weight_2]) rfl ?_
  have hev : Ev [] w w := Ev.refl _ _
  have hms : MS w [[]] := ⟨List.pairwise_singleton _ _, fun l hl b hb => by simp only [List.mem_singleton] at hl; subst hl; cases hb⟩
  have hfr : FR w.heap.size [] := FR.nil _
  refine c_seq ?_
  refine c_plain ?_
  refine x_pure 1 [(6, .int .i64 0)] _ _ _ (by kernel_rfl) ?_
  refine x_end rfl ?_
  refine k_then ?_
  refine c_norm [(0, .int .i64 steps_0), (1, .int .i64 round_1), (2, .int .i64 weight_2)] ⟨rfl, rfl, rfl, trivial⟩ (fun J => ?_)
  refine c_seq ?_
  refine c_plain ?_
  refine x_pure 1 [(7, .int .i64 0)] _ _ _ (by kernel_rfl) ?_
  refine x_end rfl ?_
  refine k_then ?_
  refine c_norm [(0, .int .i64 steps_0), (1, .int .i64 round_1), (2, .int .i64 weight_2), (7, .int .i64 0)] ⟨rfl, rfl, rfl, rfl, trivial⟩ (fun J => ?_)
  refine c_seq ?_
  refine c_seq ?_
  refine c_plain ?_
  refine x_pure 1 [(8, .int .i64 0)] _ _ _ (by kernel_rfl) ?_
  refine x_end rfl ?_
  refine k_then ?_
  refine c_norm [(0, .int .i64 steps_0), (1, .int .i64 round_1), (2, .int .i64 weight_2), (7, .int .i64 0), (8, .int .i64 0)] ⟨rfl, rfl, rfl, rfl, rfl, trivial⟩ (fun J => ?_)
  refine c_block ?_
  obtain ⟨d1, hd1, h1⟩ := bind_some h
  obtain ⟨m1, hd1⟩ := loop_some hd1
  refine c_loop (loop_rule hmx (σ := Nat × Int × Int) (fun s => match s with | (_, n_s7, ones_s8) => [(0, .int .i64 steps_0), (1, .int .i64 round_1), (2, .int .i64 weight_2), (7, .int .i64 n_s7), (8, .int .i64 ones_s8)]) (fun s w' => match s with | (m, n_s7, ones_s8) => loopN (code_count_L1 steps_0 round_1 weight_2) m (n_s7, ones_s8) = some d1 ∧ Ev [] w w' ∧ MS w' [[]] ∧ FR w.heap.size []) (fun s => s.1) (m1, 0, 0) ⟨rfl, rfl, rfl, rfl, rfl, trivial⟩ ⟨hd1, hev, hms, hfr⟩ ?_)
  rintro ⟨m1, n_s7, ones_s8⟩ J w1 ⟨hn1, hev, hms, hfr⟩
  rcases m1 with _ | m1
  · exact (loopN_zero hn1).elim
  obtain ⟨t1, h, hn1⟩ := bind_some hn1
  refine c_seq ?_
  refine c_seq ?_
  refine c_plain ?_
  refine x_pure 5 [(9, .int .i64 ones_s8), (10, .int .i64 weight_2), (11, .int .i64 steps_0), (12, .int .i64 round_1), (13, .int .i64 (IntKind.i64.wrap (steps_0 - round_1)))] _ _ _ (by kernel_rfl) ?_
  refine x_min (vs := [.int .i64 weight_2, .int .i64 (IntKind.i64.wrap (steps_0 - round_1))]) (.int .i64 (if (IntKind.i64.wrap (steps_0 - round_1)) < weight_2 then (IntKind.i64.wrap (steps_0 - round_1)) else weight_2)) rfl rfl rfl (fun _ _ => rfl) ?_
  refine x_pure 1 [(15, .bool (decide (ones_s8 ≤ (if (IntKind.i64.wrap (steps_0 - round_1)) < weight_2 then (IntKind.i64.wrap (steps_0 - round_1)) else weight_2))))] _ _ _ (by kernel_rfl) ?_
  refine x_end rfl ?_
  refine k_then ?_
  refine c_norm [(0, .int .i64 steps_0), (1, .int .i64 round_1), (2, .int .i64 weight_2), (7, .int .i64 n_s7), (8, .int .i64 ones_s8), (15, .bool (decide (ones_s8 ≤ (if (IntKind.i64.wrap (steps_0 - round_1)) < weight_2 then (IntKind.i64.wrap (steps_0 - round_1)) else weight_2))))] ⟨rfl, rfl, rfl, rfl, rfl, rfl, trivial⟩ (fun J => ?_)
  refine c_cond (decide (ones_s8 ≤ (if (IntKind.i64.wrap (steps_0 - round_1)) < weight_2 then (IntKind.i64.wrap (steps_0 - round_1)) else weight_2))) rfl (fun hb => ?_) (fun hb => ?_)
  · replace h := ite_t hb h
    refine c_skip ?_
    refine k_then ?_
    refine c_norm [(0, .int .i64 steps_0), (1, .int .i64 round_1), (2, .int .i64 weight_2), (7, .int .i64 n_s7), (8, .int .i64 ones_s8)] ⟨rfl, rfl, rfl, rfl, rfl, trivial⟩ (fun J => ?_)
    refine c_seq ?_
    refine c_block ?_
    refine c_plain ?_
    refine x_pure 5 [(18, .int .i64 n_s7), (19, .int .i64 steps_0), (20, .int .i64 round_1), (21, .int .i64 (IntKind.i64.wrap (steps_0 - round_1))), (22, .int .i64 ones_s8)] _ _ _ (by kernel_rfl) ?_
    obtain ⟨x2, hx, h⟩ := bind_some h
    have hcall := code_binomial_w (IntKind.i64.wrap (steps_0 - round_1)) ones_s8 _ w1 hx
    refine x_call 35 #[] #[] [.int .i64 (IntKind.i64.wrap (steps_0 - round_1)), .int .i64 ones_s8] _ rfl rfl rfl rfl hcall ?_
    rintro v w3 ⟨rfl, he3⟩
    clear hcall hx
    refine ⟨.inl rfl, ?_⟩
    replace hms := hms.ev he3
    replace hev := hev.ext he3
    refine x_pure 2 [(24, .int .i64 (IntKind.i64.wrap (n_s7 + x2))), (7, .int .i64 (IntKind.i64.wrap (n_s7 + x2)))] _ _ _ (by kernel_rfl) ?_
    refine x_end rfl ?_
    refine k_block ?_
    refine k_then ?_
    refine c_norm [(0, .int .i64 steps_0), (1, .int .i64 round_1), (2, .int .i64 weight_2), (7, .int .i64 (IntKind.i64.wrap (n_s7 + x2))), (8, .int .i64 ones_s8)] ⟨rfl, rfl, rfl, rfl, rfl, trivial⟩ (fun J => ?_)
    refine c_plain ?_
    refine x_pure 3 [(16, .int .i64 ones_s8), (17, .int .i64 (IntKind.i64.wrap (ones_s8 + 1))), (8, .int .i64 (IntKind.i64.wrap (ones_s8 + 1)))] _ _ _ (by kernel_rfl) ?_
    refine x_end rfl ?_
    have hx := some_inj h
    subst hx
    exact k_then ⟨(m1, IntKind.i64.wrap (n_s7 + x2), IntKind.i64.wrap (ones_s8 + 1)), ⟨rfl, rfl, rfl, rfl, rfl, trivial⟩, ⟨hn1, hev, hms, hfr⟩, Nat.lt_succ_self _⟩
  · replace h := ite_f hb h
    refine c_exit ?_
    refine k_then_exit ?_
    have hx := some_inj h
    subst hx
    have hy := some_inj hn1
    subst hy
    replace h := h1
    refine k_then_exit ?_
    refine k_block_in ?_
    refine k_then ?_
    refine c_norm [(7, .int .i64 n_s7)] ⟨rfl, trivial⟩ (fun J => ?_)
    refine c_seq ?_
    refine c_plain ?_
    refine x_pure 2 [(25, .int .i64 n_s7), (6, .int .i64 n_s7)] _ _ _ (by kernel_rfl) ?_
    refine x_end rfl ?_
    refine k_then ?_
    refine c_norm [(6, .int .i64 n_s7)] ⟨rfl, trivial⟩ (fun J => ?_)
    refine c_ret ?_
    refine r_ret (r_one (.int .i64 n_s7) rfl ?_)
    have hx := some_inj h
    subst hx
    exact ⟨rfl, hev⟩
def code_Count (steps_0 : Int) (round_1 : Int) (weight_2 : Int) : Option (Int × Int) :=
((code_form round_1 weight_2).bind fun x1 =>
(if (!x1) = true then
some (0, 2)
else
((code_in steps_0 0 12).bind fun x3 =>
(if (!x3) = true then
some (0, 2)
else
((code_count steps_0 round_1 weight_2).bind fun x5 =>
some (x5, 0))))))

theorem code_Count_w (steps_0 : Int) (round_1 : Int) (weight_2 : Int) (r : Int × Int) (w : World) (h : code_Count steps_0 round_1 weight_2 = some r) : CallVC Try.prog 16 [.int .i64 steps_0, .int .i64 round_1, .int .i64 weight_2] w fun v w' => v = .tuple #[.int .i64 r.1, .int .i64 r.2] ∧ Ev [] w w' := by
  refine calls_vc hmx Try.func16 (by kernel_rfl) rfl (rs := [.tmp 6, .tmp 7]) rfl (by kernel_rfl) (args := [.int .i64 steps_0, .int .i64 round_1, .int .i64 weight_2]) rfl ?_
  have hev : Ev [] w w := Ev.refl _ _
  have hms : MS w [[]] := ⟨List.pairwise_singleton _ _, fun l hl b hb => by simp only [List.mem_singleton] at hl; subst hl; cases hb⟩
  have hfr : FR w.heap.size [] := FR.nil _
  refine c_seq ?_
  refine c_plain ?_
  refine x_pure 2 [(6, .int .i64 0), (7, .int .i64 0)] _ _ _ (by kernel_rfl) ?_
  refine x_end rfl ?_
  refine k_then ?_
  refine c_norm [(0, .int .i64 steps_0), (1, .int .i64 round_1), (2, .int .i64 weight_2)] ⟨rfl, rfl, rfl, trivial⟩ (fun J => ?_)
  refine c_seq ?_
  refine c_seq ?_
  refine c_plain ?_
  refine x_pure 2 [(8, .int .i64 round_1), (9, .int .i64 weight_2)] _ _ _ (by kernel_rfl) ?_
  obtain ⟨x1, hx, h⟩ := bind_some h
  have hcall := code_form_w round_1 weight_2 _ w hx
  refine x_call 22 #[] #[] [.int .i64 round_1, .int .i64 weight_2] _ rfl rfl rfl rfl hcall ?_
  rintro v w2 ⟨rfl, he2⟩
  clear hcall hx
  refine ⟨.inl rfl, ?_⟩
  replace hms := hms.ev he2
  replace hev := hev.ext he2
  refine x_pure 2 [(11, .bool (!x1)), (12, .bool (!x1))] _ _ _ (by kernel_rfl) ?_
  refine x_split 12 (!x1) rfl (fun hb => ?_) (fun hb => ?_)
  · replace h := ite_t hb h
    refine x_pure 4 [(13, undef), (14, undef), (15, undef), (16, .bool true)] _ _ _ (by kernel_rfl) ?_
    refine x_end rfl ?_
    refine k_then ?_
    refine c_norm [(0, .int .i64 steps_0), (1, .int .i64 round_1), (2, .int .i64 weight_2), (16, .bool true)] ⟨rfl, rfl, rfl, rfl, trivial⟩ (fun J => ?_)
    refine c_true rfl ?_
    refine c_seq ?_
    refine c_plain ?_
    refine x_pure 2 [(6, .int .i64 0), (7, .int .i64 2)] _ _ _ (by kernel_rfl) ?_
    refine x_end rfl ?_
    refine k_then ?_
    refine c_norm [(6, .int .i64 0), (7, .int .i64 2)] ⟨rfl, rfl, trivial⟩ (fun J => ?_)
    refine c_ret ?_
    refine k_then_ret ?_
    refine r_ret (r_two (.int .i64 0) (.int .i64 2) rfl rfl ?_)
    have hx := some_inj h
    subst hx
    exact ⟨rfl, hev⟩
  · replace h := ite_f hb h
    refine x_pure 1 [(13, .int .i64 steps_0)] _ _ _ (by kernel_rfl) ?_
    obtain ⟨x3, hx, h⟩ := bind_some h
    have hcall := code_in_w steps_0 0 12 _ w2 hx
    refine x_call 25 #[] #[] [.int .i64 steps_0, .int .i64 0, .int .i64 12] _ rfl rfl rfl rfl hcall ?_
    rintro v w4 ⟨rfl, he4⟩
    clear hcall hx
    refine ⟨.inl rfl, ?_⟩
    replace hms := hms.ev he4
    replace hev := hev.ext he4
    refine x_pure 2 [(15, .bool (!x3)), (16, .bool (!x3))] _ _ _ (by kernel_rfl) ?_
    refine x_end rfl ?_
    refine k_then ?_
    refine c_norm [(0, .int .i64 steps_0), (1, .int .i64 round_1), (2, .int .i64 weight_2), (16, .bool (!x3))] ⟨rfl, rfl, rfl, rfl, trivial⟩ (fun J => ?_)
    refine c_cond (!x3) rfl (fun hb => ?_) (fun hb => ?_)
    · replace h := ite_t hb h
      refine c_seq ?_
      refine c_plain ?_
      refine x_pure 2 [(6, .int .i64 0), (7, .int .i64 2)] _ _ _ (by kernel_rfl) ?_
      refine x_end rfl ?_
      refine k_then ?_
      refine c_norm [(6, .int .i64 0), (7, .int .i64 2)] ⟨rfl, rfl, trivial⟩ (fun J => ?_)
      refine c_ret ?_
      refine k_then_ret ?_
      refine r_ret (r_two (.int .i64 0) (.int .i64 2) rfl rfl ?_)
      have hx := some_inj h
      subst hx
      exact ⟨rfl, hev⟩
    · replace h := ite_f hb h
      refine c_skip ?_
      refine k_then ?_
      refine c_norm [(0, .int .i64 steps_0), (1, .int .i64 round_1), (2, .int .i64 weight_2)] ⟨rfl, rfl, rfl, trivial⟩ (fun J => ?_)
      refine c_seq ?_
      refine c_plain ?_
      refine x_pure 3 [(17, .int .i64 steps_0), (18, .int .i64 round_1), (19, .int .i64 weight_2)] _ _ _ (by kernel_rfl) ?_
      obtain ⟨x5, hx, h⟩ := bind_some h
      have hcall := code_count_w steps_0 round_1 weight_2 _ w4 hx
      refine x_call 26 #[] #[] [.int .i64 steps_0, .int .i64 round_1, .int .i64 weight_2] _ rfl rfl rfl rfl hcall ?_
      rintro v w6 ⟨rfl, he6⟩
      clear hcall hx
      refine ⟨.inl rfl, ?_⟩
      replace hms := hms.ev he6
      replace hev := hev.ext he6
      refine x_pure 2 [(6, .int .i64 x5), (7, .int .i64 0)] _ _ _ (by kernel_rfl) ?_
      refine x_end rfl ?_
      refine k_then ?_
      refine c_norm [(6, .int .i64 x5), (7, .int .i64 0)] ⟨rfl, rfl, trivial⟩ (fun J => ?_)
      refine c_ret ?_
      refine r_ret (r_two (.int .i64 x5) (.int .i64 0) rfl rfl ?_)
      have hx := some_inj h
      subst hx
      exact ⟨rfl, hev⟩
def code_Nth_L7 (round_1 : Int) (s : Int × Int × Int × Int) : Option (Step (Int × Int × Int × Int) Int) :=
match s with
| (i_s0, weight_s2, k_s8, bit_s9) =>
(if (decide (bit_s9 ≥ round_1)) = true then
((code_count bit_s9 round_1 weight_s2).bind fun x8 =>
(if (decide (i_s0 ≥ x8)) = true then
(if 0 ≤ bit_s9 then
some (.next (IntKind.i64.wrap (i_s0 - x8), IntKind.i64.wrap (weight_s2 - 1), IntKind.i64.wrap ↑(BitVec.ofInt IntKind.i64.bits k_s8 ||| BitVec.ofInt IntKind.i64.bits (IntKind.i64.wrap (1 * 2 ^ (min (Int.toNat (bit_s9)) IntKind.i64.bits)))).toNat, IntKind.i64.wrap (bit_s9 - 1)))
else none)
else
some (.next (i_s0, weight_s2, k_s8, IntKind.i64.wrap (bit_s9 - 1)))))
else
some (.done k_s8))

def code_Nth (i_0 : Int) (round_1 : Int) (weight_2 : Int) : Option (Int × Int) :=
((code_form round_1 weight_2).bind fun x1 =>
(if (!x1) = true then
some (0, 2)
else
(if (decide (i_0 < 0)) = true then
some (0, 2)
else
((code_count 12 round_1 weight_2).bind fun x3 =>
(if (decide (i_0 ≥ x3)) = true then
some (0, 15)
else
((code_missed round_1).bind fun x5 =>
((loop (code_Nth_L7 round_1) (i_0, weight_2, x5, 11)).bind fun d => match d with
| k_x8 => some (k_x8, 0))))))))

theorem code_Nth_w (i_0 : Int) (round_1 : Int) (weight_2 : Int) (r : Int × Int) (w : World) (h : code_Nth i_0 round_1 weight_2 = some r) : CallVC Try.prog 15 [.int .i64 i_0, .int .i64 round_1, .int .i64 weight_2] w fun v w' => v = .tuple #[.int .i64 r.1, .int .i64 r.2] ∧ Ev [] w w' := by
  refine calls_vc hmx Try.func15 (by kernel_rfl) rfl (rs := [.tmp 6, .tmp 7]) rfl (by kernel_rfl) (args := [.int .i64 i_0, .int .i64 round_1, .int .i64 weight_2]) rfl ?_
  have hev : Ev [] w w := Ev.refl _ _
  have hms : MS w [[]] := ⟨List.pairwise_singleton _ _, fun l hl b hb => by simp only [List.mem_singleton] at hl; subst hl; cases hb⟩
  have hfr : FR w.heap.size [] := FR.nil _
  refine c_seq ?_
  refine c_plain ?_
  refine x_pure 2 [(6, .int .i64 0), (7, .int .i64 0)] _ _ _ (by kernel_rfl) ?_
  refine x_end rfl ?_
  refine k_then ?_
  refine c_norm [(0, .int .i64 i_0), (1, .int .i64 round_1), (2, .int .i64 weight_2)] ⟨rfl, rfl, rfl, trivial⟩ (fun J => ?_)
  refine c_seq ?_
  refine c_seq ?_
  refine c_plain ?_
  refine x_pure 2 [(11, .int .i64 round_1), (12, .int .i64 weight_2)] _ _ _ (by kernel_rfl) ?_
  obtain ⟨x1, hx, h⟩ := bind_some h
  have hcall := code_form_w round_1 weight_2 _ w hx
  refine x_call 22 #[] #[] [.int .i64 round_1, .int .i64 weight_2] _ rfl rfl rfl rfl hcall ?_
  rintro v w2 ⟨rfl, he2⟩
  clear hcall hx
  refine ⟨.inl rfl, ?_⟩
  replace hms := hms.ev he2
  replace hev := hev.ext he2
  refine x_pure 2 [(14, .bool (!x1)), (15, .bool (!x1))] _ _ _ (by kernel_rfl) ?_
  refine x_split 15 (!x1) rfl (fun hb => ?_) (fun hb => ?_)
  · replace h := ite_t hb h
    refine x_pure 3 [(16, undef), (17, undef), (18, .bool true)] _ _ _ (by kernel_rfl) ?_
    refine x_end rfl ?_
    refine k_then ?_
    refine c_norm [(0, .int .i64 i_0), (1, .int .i64 round_1), (2, .int .i64 weight_2), (18, .bool true)] ⟨rfl, rfl, rfl, rfl, trivial⟩ (fun J => ?_)
    refine c_true rfl ?_
    refine c_seq ?_
    refine c_plain ?_
    refine x_pure 2 [(6, .int .i64 0), (7, .int .i64 2)] _ _ _ (by kernel_rfl) ?_
    refine x_end rfl ?_
    refine k_then ?_
    refine c_norm [(6, .int .i64 0), (7, .int .i64 2)] ⟨rfl, rfl, trivial⟩ (fun J => ?_)
    refine c_ret ?_
    refine k_then_ret ?_
    refine r_ret (r_two (.int .i64 0) (.int .i64 2) rfl rfl ?_)
    have hx := some_inj h
    subst hx
    exact ⟨rfl, hev⟩
  · replace h := ite_f hb h
    refine x_pure 3 [(16, .int .i64 i_0), (17, .bool (decide (i_0 < 0))), (18, .bool (decide (i_0 < 0)))] _ _ _ (by kernel_rfl) ?_
    refine x_end rfl ?_
    refine k_then ?_
    refine c_norm [(0, .int .i64 i_0), (1, .int .i64 round_1), (2, .int .i64 weight_2), (18, .bool (decide (i_0 < 0)))] ⟨rfl, rfl, rfl, rfl, trivial⟩ (fun J => ?_)
    refine c_cond (decide (i_0 < 0)) rfl (fun hb => ?_) (fun hb => ?_)
    · replace h := ite_t hb h
      refine c_seq ?_
      refine c_plain ?_
      refine x_pure 2 [(6, .int .i64 0), (7, .int .i64 2)] _ _ _ (by kernel_rfl) ?_
      refine x_end rfl ?_
      refine k_then ?_
      refine c_norm [(6, .int .i64 0), (7, .int .i64 2)] ⟨rfl, rfl, trivial⟩ (fun J => ?_)
      refine c_ret ?_
      refine k_then_ret ?_
      refine r_ret (r_two (.int .i64 0) (.int .i64 2) rfl rfl ?_)
      have hx := some_inj h
      subst hx
      exact ⟨rfl, hev⟩
    · replace h := ite_f hb h
      refine c_skip ?_
      refine k_then ?_
      refine c_norm [(0, .int .i64 i_0), (1, .int .i64 round_1), (2, .int .i64 weight_2)] ⟨rfl, rfl, rfl, trivial⟩ (fun J => ?_)
      refine c_seq ?_
      refine c_seq ?_
      refine c_plain ?_
      refine x_pure 3 [(19, .int .i64 i_0), (20, .int .i64 round_1), (21, .int .i64 weight_2)] _ _ _ (by kernel_rfl) ?_
      obtain ⟨x3, hx, h⟩ := bind_some h
      have hcall := code_count_w 12 round_1 weight_2 _ w2 hx
      refine x_call 26 #[] #[] [.int .i64 12, .int .i64 round_1, .int .i64 weight_2] _ rfl rfl rfl rfl hcall ?_
      rintro v w4 ⟨rfl, he4⟩
      clear hcall hx
      refine ⟨.inl rfl, ?_⟩
      replace hms := hms.ev he4
      replace hev := hev.ext he4
      refine x_pure 1 [(23, .bool (decide (i_0 ≥ x3)))] _ _ _ (by kernel_rfl) ?_
      refine x_end rfl ?_
      refine k_then ?_
      refine c_norm [(0, .int .i64 i_0), (1, .int .i64 round_1), (2, .int .i64 weight_2), (23, .bool (decide (i_0 ≥ x3)))] ⟨rfl, rfl, rfl, rfl, trivial⟩ (fun J => ?_)
      refine c_cond (decide (i_0 ≥ x3)) rfl (fun hb => ?_) (fun hb => ?_)
      · replace h := ite_t hb h
        refine c_seq ?_
        refine c_plain ?_
        refine x_pure 2 [(6, .int .i64 0), (7, .int .i64 15)] _ _ _ (by kernel_rfl) ?_
        refine x_end rfl ?_
        refine k_then ?_
        refine c_norm [(6, .int .i64 0), (7, .int .i64 15)] ⟨rfl, rfl, trivial⟩ (fun J => ?_)
        refine c_ret ?_
        refine k_then_ret ?_
        refine r_ret (r_two (.int .i64 0) (.int .i64 15) rfl rfl ?_)
        have hx := some_inj h
        subst hx
        exact ⟨rfl, hev⟩
      · replace h := ite_f hb h
        refine c_skip ?_
        refine k_then ?_
        refine c_norm [(0, .int .i64 i_0), (1, .int .i64 round_1), (2, .int .i64 weight_2)] ⟨rfl, rfl, rfl, trivial⟩ (fun J => ?_)
        refine c_seq ?_
        refine c_plain ?_
        refine x_pure 1 [(24, .int .i64 round_1)] _ _ _ (by kernel_rfl) ?_
        obtain ⟨x5, hx, h⟩ := bind_some h
        have hcall := code_missed_w round_1 _ w4 hx
        refine x_call 23 #[] #[] [.int .i64 round_1] _ rfl rfl rfl rfl hcall ?_
        rintro v w6 ⟨rfl, he6⟩
        clear hcall hx
        refine ⟨.inl rfl, ?_⟩
        replace hms := hms.ev he6
        replace hev := hev.ext he6
        refine x_pure 1 [(8, .int .i64 x5)] _ _ _ (by kernel_rfl) ?_
        refine x_end rfl ?_
        refine k_then ?_
        refine c_norm [(0, .int .i64 i_0), (1, .int .i64 round_1), (2, .int .i64 weight_2), (8, .int .i64 x5)] ⟨rfl, rfl, rfl, rfl, trivial⟩ (fun J => ?_)
        refine c_seq ?_
        refine c_seq ?_
        refine c_plain ?_
        refine x_pure 1 [(9, .int .i64 11)] _ _ _ (by kernel_rfl) ?_
        refine x_end rfl ?_
        refine k_then ?_
        refine c_norm [(0, .int .i64 i_0), (1, .int .i64 round_1), (2, .int .i64 weight_2), (8, .int .i64 x5), (9, .int .i64 11)] ⟨rfl, rfl, rfl, rfl, rfl, trivial⟩ (fun J => ?_)
        refine c_block ?_
        obtain ⟨d7, hd7, h7⟩ := bind_some h
        obtain ⟨m7, hd7⟩ := loop_some hd7
        refine c_loop (loop_rule hmx (σ := Nat × Int × Int × Int × Int) (fun s => match s with | (_, i_s0, weight_s2, k_s8, bit_s9) => [(1, .int .i64 round_1), (0, .int .i64 i_s0), (2, .int .i64 weight_s2), (8, .int .i64 k_s8), (9, .int .i64 bit_s9)]) (fun s w' => match s with | (m, i_s0, weight_s2, k_s8, bit_s9) => loopN (code_Nth_L7 round_1) m (i_s0, weight_s2, k_s8, bit_s9) = some d7 ∧ Ev [] w w' ∧ MS w' [[]] ∧ FR w.heap.size []) (fun s => s.1) (m7, i_0, weight_2, x5, 11) ⟨rfl, rfl, rfl, rfl, rfl, trivial⟩ ⟨hd7, hev, hms, hfr⟩ ?_)
        rintro ⟨m7, i_s0, weight_s2, k_s8, bit_s9⟩ J w7 ⟨hn7, hev, hms, hfr⟩
        rcases m7 with _ | m7
        · exact (loopN_zero hn7).elim
        obtain ⟨t7, h, hn7⟩ := bind_some hn7
        refine c_seq ?_
        refine c_seq ?_
        refine c_plain ?_
        refine x_pure 3 [(26, .int .i64 bit_s9), (27, .int .i64 round_1), (28, .bool (decide (bit_s9 ≥ round_1)))] _ _ _ (by kernel_rfl) ?_
        refine x_end rfl ?_
        refine k_then ?_
        refine c_norm [(0, .int .i64 i_s0), (1, .int .i64 round_1), (2, .int .i64 weight_s2), (8, .int .i64 k_s8), (9, .int .i64 bit_s9), (28, .bool (decide (bit_s9 ≥ round_1)))] ⟨rfl, rfl, rfl, rfl, rfl, rfl, trivial⟩ (fun J => ?_)
        refine c_cond (decide (bit_s9 ≥ round_1)) rfl (fun hb => ?_) (fun hb => ?_)
        · replace h := ite_t hb h
          refine c_skip ?_
          refine k_then ?_
          refine c_norm [(0, .int .i64 i_s0), (1, .int .i64 round_1), (2, .int .i64 weight_s2), (8, .int .i64 k_s8), (9, .int .i64 bit_s9)] ⟨rfl, rfl, rfl, rfl, rfl, trivial⟩ (fun J => ?_)
          refine c_seq ?_
          refine c_block ?_
          refine c_seq ?_
          refine c_plain ?_
          refine x_pure 3 [(31, .int .i64 bit_s9), (32, .int .i64 round_1), (33, .int .i64 weight_s2)] _ _ _ (by kernel_rfl) ?_
          obtain ⟨x8, hx, h⟩ := bind_some h
          have hcall := code_count_w bit_s9 round_1 weight_s2 _ w7 hx
          refine x_call 26 #[] #[] [.int .i64 bit_s9, .int .i64 round_1, .int .i64 weight_s2] _ rfl rfl rfl rfl hcall ?_
          rintro v w9 ⟨rfl, he9⟩
          clear hcall hx
          refine ⟨.inl rfl, ?_⟩
          replace hms := hms.ev he9
          replace hev := hev.ext he9
          refine x_pure 1 [(10, .int .i64 x8)] _ _ _ (by kernel_rfl) ?_
          refine x_end rfl ?_
          refine k_then ?_
          refine c_norm [(0, .int .i64 i_s0), (1, .int .i64 round_1), (2, .int .i64 weight_s2), (8, .int .i64 k_s8), (9, .int .i64 bit_s9), (10, .int .i64 x8)] ⟨rfl, rfl, rfl, rfl, rfl, rfl, trivial⟩ (fun J => ?_)
          refine c_seq ?_
          refine c_plain ?_
          refine x_pure 3 [(35, .int .i64 i_s0), (36, .int .i64 x8), (37, .bool (decide (i_s0 ≥ x8)))] _ _ _ (by kernel_rfl) ?_
          refine x_end rfl ?_
          refine k_then ?_
          refine c_norm [(0, .int .i64 i_s0), (1, .int .i64 round_1), (2, .int .i64 weight_s2), (8, .int .i64 k_s8), (9, .int .i64 bit_s9), (10, .int .i64 x8), (37, .bool (decide (i_s0 ≥ x8)))] ⟨rfl, rfl, rfl, rfl, rfl, rfl, rfl, trivial⟩ (fun J => ?_)
          refine c_cond (decide (i_s0 ≥ x8)) rfl (fun hb => ?_) (fun hb => ?_)
          · replace h := ite_t hb h
            refine c_seq ?_
            refine c_plain ?_
            refine x_pure 4 [(38, .int .i64 i_s0), (39, .int .i64 x8), (40, .int .i64 (IntKind.i64.wrap (i_s0 - x8))), (0, .int .i64 (IntKind.i64.wrap (i_s0 - x8)))] _ _ _ (by kernel_rfl) ?_
            refine x_end rfl ?_
            refine k_then ?_
            refine c_norm [(0, .int .i64 (IntKind.i64.wrap (i_s0 - x8))), (1, .int .i64 round_1), (2, .int .i64 weight_s2), (8, .int .i64 k_s8), (9, .int .i64 bit_s9)] ⟨rfl, rfl, rfl, rfl, rfl, trivial⟩ (fun J => ?_)
            refine c_seq ?_
            refine c_plain ?_
            refine x_pure 3 [(41, .int .i64 weight_s2), (42, .int .i64 (IntKind.i64.wrap (weight_s2 - 1))), (2, .int .i64 (IntKind.i64.wrap (weight_s2 - 1)))] _ _ _ (by kernel_rfl) ?_
            refine x_end rfl ?_
            refine k_then ?_
            refine c_norm [(0, .int .i64 (IntKind.i64.wrap (i_s0 - x8))), (1, .int .i64 round_1), (2, .int .i64 (IntKind.i64.wrap (weight_s2 - 1))), (8, .int .i64 k_s8), (9, .int .i64 bit_s9)] ⟨rfl, rfl, rfl, rfl, rfl, trivial⟩ (fun J => ?_)
            refine c_plain ?_
            refine x_pure 2 [(43, .int .i64 k_s8), (44, .int .i64 bit_s9)] _ _ _ (by kernel_rfl) ?_
            refine x_binop (.int .i64 (IntKind.i64.wrap (1 * 2 ^ (min (Int.toNat (bit_s9)) IntKind.i64.bits)))) (.int .i64 1) (.int .i64 bit_s9) rfl rfl rfl rfl (vb_shl (guard_l h)) ?_
            replace h := guard_r h
            refine x_pure 2 [(46, .int .i64 (IntKind.i64.wrap ↑(BitVec.ofInt IntKind.i64.bits k_s8 ||| BitVec.ofInt IntKind.i64.bits (IntKind.i64.wrap (1 * 2 ^ (min (Int.toNat (bit_s9)) IntKind.i64.bits)))).toNat)), (8, .int .i64 (IntKind.i64.wrap ↑(BitVec.ofInt IntKind.i64.bits k_s8 ||| BitVec.ofInt IntKind.i64.bits (IntKind.i64.wrap (1 * 2 ^ (min (Int.toNat (bit_s9)) IntKind.i64.bits)))).toNat))] _ _ _ (by kernel_rfl) ?_
            refine x_end rfl ?_
            refine k_block ?_
            refine k_then ?_
            refine c_norm [(0, .int .i64 (IntKind.i64.wrap (i_s0 - x8))), (1, .int .i64 round_1), (2, .int .i64 (IntKind.i64.wrap (weight_s2 - 1))), (8, .int .i64 (IntKind.i64.wrap ↑(BitVec.ofInt IntKind.i64.bits k_s8 ||| BitVec.ofInt IntKind.i64.bits (IntKind.i64.wrap (1 * 2 ^ (min (Int.toNat (bit_s9)) IntKind.i64.bits)))).toNat)), (9, .int .i64 bit_s9)] ⟨rfl, rfl, rfl, rfl, rfl, trivial⟩ (fun J => ?_)
            refine c_plain ?_
            refine x_pure 3 [(29, .int .i64 bit_s9), (30, .int .i64 (IntKind.i64.wrap (bit_s9 - 1))), (9, .int .i64 (IntKind.i64.wrap (bit_s9 - 1)))] _ _ _ (by kernel_rfl) ?_
            refine x_end rfl ?_
            have hx := some_inj h
            subst hx
            exact k_then ⟨(m7, IntKind.i64.wrap (i_s0 - x8), IntKind.i64.wrap (weight_s2 - 1), IntKind.i64.wrap ↑(BitVec.ofInt IntKind.i64.bits k_s8 ||| BitVec.ofInt IntKind.i64.bits (IntKind.i64.wrap (1 * 2 ^ (min (Int.toNat (bit_s9)) IntKind.i64.bits)))).toNat, IntKind.i64.wrap (bit_s9 - 1)), ⟨rfl, rfl, rfl, rfl, rfl, trivial⟩, ⟨hn7, hev, hms, hfr⟩, Nat.lt_succ_self _⟩
          · replace h := ite_f hb h
            refine c_skip ?_
            refine k_block ?_
            refine k_then ?_
            refine c_norm [(0, .int .i64 i_s0), (1, .int .i64 round_1), (2, .int .i64 weight_s2), (8, .int .i64 k_s8), (9, .int .i64 bit_s9)] ⟨rfl, rfl, rfl, rfl, rfl, trivial⟩ (fun J => ?_)
            refine c_plain ?_
            refine x_pure 3 [(29, .int .i64 bit_s9), (30, .int .i64 (IntKind.i64.wrap (bit_s9 - 1))), (9, .int .i64 (IntKind.i64.wrap (bit_s9 - 1)))] _ _ _ (by kernel_rfl) ?_
            refine x_end rfl ?_
            have hx := some_inj h
            subst hx
            exact k_then ⟨(m7, i_s0, weight_s2, k_s8, IntKind.i64.wrap (bit_s9 - 1)), ⟨rfl, rfl, rfl, rfl, rfl, trivial⟩, ⟨hn7, hev, hms, hfr⟩, Nat.lt_succ_self _⟩
        · replace h := ite_f hb h
          refine c_exit ?_
          refine k_then_exit ?_
          have hx := some_inj h
          subst hx
          have hy := some_inj hn7
          subst hy
          replace h := h7
          refine k_then_exit ?_
          refine k_block_in ?_
          refine k_then ?_
          refine c_norm [(8, .int .i64 k_s8)] ⟨rfl, trivial⟩ (fun J => ?_)
          refine c_seq ?_
          refine c_plain ?_
          refine x_pure 3 [(47, .int .i64 k_s8), (6, .int .i64 k_s8), (7, .int .i64 0)] _ _ _ (by kernel_rfl) ?_
          refine x_end rfl ?_
          refine k_then ?_
          refine c_norm [(6, .int .i64 k_s8), (7, .int .i64 0)] ⟨rfl, rfl, trivial⟩ (fun J => ?_)
          refine c_ret ?_
          refine r_ret (r_two (.int .i64 k_s8) (.int .i64 0) rfl rfl ?_)
          have hx := some_inj h
          subst hx
          exact ⟨rfl, hev⟩
def code_Rank_L5 (k_0 : Int) (round_1 : Int) (s : Int × Int × Int) : Option (Step (Int × Int × Int) Int) :=
match s with
| (weight_s2, i_s8, bit_s9) =>
(if (decide (bit_s9 ≥ round_1)) = true then
(if 0 ≤ bit_s9 then
(if ((IntKind.i64.wrap ↑(BitVec.ofInt IntKind.i64.bits (Int.fdiv k_0 (2 ^ (min (Int.toNat (bit_s9)) IntKind.i64.bits))) &&& BitVec.ofInt IntKind.i64.bits 1).toNat) == 1) = true then
((code_count bit_s9 round_1 weight_s2).bind fun x6 =>
some (.next (IntKind.i64.wrap (weight_s2 - 1), IntKind.i64.wrap (i_s8 + x6), IntKind.i64.wrap (bit_s9 - 1))))
else
some (.next (weight_s2, i_s8, IntKind.i64.wrap (bit_s9 - 1))))
else none)
else
some (.done i_s8))

def code_Rank (k_0 : Int) (round_1 : Int) (weight_2 : Int) : Option (Int × Int) :=
((code_form round_1 weight_2).bind fun x1 =>
(if (!x1) = true then
some (0, 2)
else
((code_Is k_0 round_1 weight_2).bind fun x3 =>
(if (!x3) = true then
some (0, 15)
else
((loop (code_Rank_L5 k_0 round_1) (weight_2, 0, 11)).bind fun d => match d with
| i_x8 => some (i_x8, 0))))))

theorem code_Rank_w (k_0 : Int) (round_1 : Int) (weight_2 : Int) (r : Int × Int) (w : World) (h : code_Rank k_0 round_1 weight_2 = some r) : CallVC Try.prog 17 [.int .i64 k_0, .int .i64 round_1, .int .i64 weight_2] w fun v w' => v = .tuple #[.int .i64 r.1, .int .i64 r.2] ∧ Ev [] w w' := by
  refine calls_vc hmx Try.func17 (by kernel_rfl) rfl (rs := [.tmp 6, .tmp 7]) rfl (by kernel_rfl) (args := [.int .i64 k_0, .int .i64 round_1, .int .i64 weight_2]) rfl ?_
  have hev : Ev [] w w := Ev.refl _ _
  have hms : MS w [[]] := ⟨List.pairwise_singleton _ _, fun l hl b hb => by simp only [List.mem_singleton] at hl; subst hl; cases hb⟩
  have hfr : FR w.heap.size [] := FR.nil _
  refine c_seq ?_
  refine c_plain ?_
  refine x_pure 2 [(6, .int .i64 0), (7, .int .i64 0)] _ _ _ (by kernel_rfl) ?_
  refine x_end rfl ?_
  refine k_then ?_
  refine c_norm [(0, .int .i64 k_0), (1, .int .i64 round_1), (2, .int .i64 weight_2)] ⟨rfl, rfl, rfl, trivial⟩ (fun J => ?_)
  refine c_seq ?_
  refine c_seq ?_
  refine c_plain ?_
  refine x_pure 2 [(10, .int .i64 round_1), (11, .int .i64 weight_2)] _ _ _ (by kernel_rfl) ?_
  obtain ⟨x1, hx, h⟩ := bind_some h
  have hcall := code_form_w round_1 weight_2 _ w hx
  refine x_call 22 #[] #[] [.int .i64 round_1, .int .i64 weight_2] _ rfl rfl rfl rfl hcall ?_
  rintro v w2 ⟨rfl, he2⟩
  clear hcall hx
  refine ⟨.inl rfl, ?_⟩
  replace hms := hms.ev he2
  replace hev := hev.ext he2
  refine x_pure 1 [(13, .bool (!x1))] _ _ _ (by kernel_rfl) ?_
  refine x_end rfl ?_
  refine k_then ?_
  refine c_norm [(0, .int .i64 k_0), (1, .int .i64 round_1), (2, .int .i64 weight_2), (13, .bool (!x1))] ⟨rfl, rfl, rfl, rfl, trivial⟩ (fun J => ?_)
  refine c_cond (!x1) rfl (fun hb => ?_) (fun hb => ?_)
  · replace h := ite_t hb h
    refine c_seq ?_
    refine c_plain ?_
    refine x_pure 2 [(6, .int .i64 0), (7, .int .i64 2)] _ _ _ (by kernel_rfl) ?_
    refine x_end rfl ?_
    refine k_then ?_
    refine c_norm [(6, .int .i64 0), (7, .int .i64 2)] ⟨rfl, rfl, trivial⟩ (fun J => ?_)
    refine c_ret ?_
    refine k_then_ret ?_
    refine r_ret (r_two (.int .i64 0) (.int .i64 2) rfl rfl ?_)
    have hx := some_inj h
    subst hx
    exact ⟨rfl, hev⟩
  · replace h := ite_f hb h
    refine c_skip ?_
    refine k_then ?_
    refine c_norm [(0, .int .i64 k_0), (1, .int .i64 round_1), (2, .int .i64 weight_2)] ⟨rfl, rfl, rfl, trivial⟩ (fun J => ?_)
    refine c_seq ?_
    refine c_seq ?_
    refine c_plain ?_
    refine x_pure 3 [(14, .int .i64 k_0), (15, .int .i64 round_1), (16, .int .i64 weight_2)] _ _ _ (by kernel_rfl) ?_
    obtain ⟨x3, hx, h⟩ := bind_some h
    have hcall := code_Is_w k_0 round_1 weight_2 _ w2 hx
    refine x_call 13 #[] #[] [.int .i64 k_0, .int .i64 round_1, .int .i64 weight_2] _ rfl rfl rfl rfl hcall ?_
    rintro v w4 ⟨rfl, he4⟩
    clear hcall hx
    refine ⟨.inl rfl, ?_⟩
    replace hms := hms.ev he4
    replace hev := hev.ext he4
    refine x_pure 1 [(18, .bool (!x3))] _ _ _ (by kernel_rfl) ?_
    refine x_end rfl ?_
    refine k_then ?_
    refine c_norm [(0, .int .i64 k_0), (1, .int .i64 round_1), (2, .int .i64 weight_2), (18, .bool (!x3))] ⟨rfl, rfl, rfl, rfl, trivial⟩ (fun J => ?_)
    refine c_cond (!x3) rfl (fun hb => ?_) (fun hb => ?_)
    · replace h := ite_t hb h
      refine c_seq ?_
      refine c_plain ?_
      refine x_pure 2 [(6, .int .i64 0), (7, .int .i64 15)] _ _ _ (by kernel_rfl) ?_
      refine x_end rfl ?_
      refine k_then ?_
      refine c_norm [(6, .int .i64 0), (7, .int .i64 15)] ⟨rfl, rfl, trivial⟩ (fun J => ?_)
      refine c_ret ?_
      refine k_then_ret ?_
      refine r_ret (r_two (.int .i64 0) (.int .i64 15) rfl rfl ?_)
      have hx := some_inj h
      subst hx
      exact ⟨rfl, hev⟩
    · replace h := ite_f hb h
      refine c_skip ?_
      refine k_then ?_
      refine c_norm [(0, .int .i64 k_0), (1, .int .i64 round_1), (2, .int .i64 weight_2)] ⟨rfl, rfl, rfl, trivial⟩ (fun J => ?_)
      refine c_seq ?_
      refine c_plain ?_
      refine x_pure 1 [(8, .int .i64 0)] _ _ _ (by kernel_rfl) ?_
      refine x_end rfl ?_
      refine k_then ?_
      refine c_norm [(0, .int .i64 k_0), (1, .int .i64 round_1), (2, .int .i64 weight_2), (8, .int .i64 0)] ⟨rfl, rfl, rfl, rfl, trivial⟩ (fun J => ?_)
      refine c_seq ?_
      refine c_seq ?_
      refine c_plain ?_
      refine x_pure 1 [(9, .int .i64 11)] _ _ _ (by kernel_rfl) ?_
      refine x_end rfl ?_
      refine k_then ?_
      refine c_norm [(0, .int .i64 k_0), (1, .int .i64 round_1), (2, .int .i64 weight_2), (8, .int .i64 0), (9, .int .i64 11)] ⟨rfl, rfl, rfl, rfl, rfl, trivial⟩ (fun J => ?_)
      refine c_block ?_
      obtain ⟨d5, hd5, h5⟩ := bind_some h
      obtain ⟨m5, hd5⟩ := loop_some hd5
      refine c_loop (loop_rule hmx (σ := Nat × Int × Int × Int) (fun s => match s with | (_, weight_s2, i_s8, bit_s9) => [(0, .int .i64 k_0), (1, .int .i64 round_1), (2, .int .i64 weight_s2), (8, .int .i64 i_s8), (9, .int .i64 bit_s9)]) (fun s w' => match s with | (m, weight_s2, i_s8, bit_s9) => loopN (code_Rank_L5 k_0 round_1) m (weight_s2, i_s8, bit_s9) = some d5 ∧ Ev [] w w' ∧ MS w' [[]] ∧ FR w.heap.size []) (fun s => s.1) (m5, weight_2, 0, 11) ⟨rfl, rfl, rfl, rfl, rfl, trivial⟩ ⟨hd5, hev, hms, hfr⟩ ?_)
      rintro ⟨m5, weight_s2, i_s8, bit_s9⟩ J w5 ⟨hn5, hev, hms, hfr⟩
      rcases m5 with _ | m5
      · exact (loopN_zero hn5).elim
      obtain ⟨t5, h, hn5⟩ := bind_some hn5
      refine c_seq ?_
      refine c_seq ?_
      refine c_plain ?_
      refine x_pure 3 [(19, .int .i64 bit_s9), (20, .int .i64 round_1), (21, .bool (decide (bit_s9 ≥ round_1)))] _ _ _ (by kernel_rfl) ?_
      refine x_end rfl ?_
      refine k_then ?_
      refine c_norm [(0, .int .i64 k_0), (1, .int .i64 round_1), (2, .int .i64 weight_s2), (8, .int .i64 i_s8), (9, .int .i64 bit_s9), (21, .bool (decide (bit_s9 ≥ round_1)))] ⟨rfl, rfl, rfl, rfl, rfl, rfl, trivial⟩ (fun J => ?_)
      refine c_cond (decide (bit_s9 ≥ round_1)) rfl (fun hb => ?_) (fun hb => ?_)
      · replace h := ite_t hb h
        refine c_skip ?_
        refine k_then ?_
        refine c_norm [(0, .int .i64 k_0), (1, .int .i64 round_1), (2, .int .i64 weight_s2), (8, .int .i64 i_s8), (9, .int .i64 bit_s9)] ⟨rfl, rfl, rfl, rfl, rfl, trivial⟩ (fun J => ?_)
        refine c_seq ?_
        refine c_block ?_
        refine c_seq ?_
        refine c_plain ?_
        refine x_pure 2 [(24, .int .i64 k_0), (25, .int .i64 bit_s9)] _ _ _ (by kernel_rfl) ?_
        refine x_binop (.int .i64 (Int.fdiv k_0 (2 ^ (min (Int.toNat (bit_s9)) IntKind.i64.bits)))) (.int .i64 k_0) (.int .i64 bit_s9) rfl rfl rfl rfl (vb_shr (guard_l h)) ?_
        replace h := guard_r h
        refine x_pure 2 [(27, .int .i64 (IntKind.i64.wrap ↑(BitVec.ofInt IntKind.i64.bits (Int.fdiv k_0 (2 ^ (min (Int.toNat (bit_s9)) IntKind.i64.bits))) &&& BitVec.ofInt IntKind.i64.bits 1).toNat)), (28, .bool ((IntKind.i64.wrap ↑(BitVec.ofInt IntKind.i64.bits (Int.fdiv k_0 (2 ^ (min (Int.toNat (bit_s9)) IntKind.i64.bits))) &&& BitVec.ofInt IntKind.i64.bits 1).toNat) == 1))] _ _ _ (by kernel_rfl) ?_
        refine x_end rfl ?_
        refine k_then ?_
        refine c_norm [(0, .int .i64 k_0), (1, .int .i64 round_1), (2, .int .i64 weight_s2), (8, .int .i64 i_s8), (9, .int .i64 bit_s9), (28, .bool ((IntKind.i64.wrap ↑(BitVec.ofInt IntKind.i64.bits (Int.fdiv k_0 (2 ^ (min (Int.toNat (bit_s9)) IntKind.i64.bits))) &&& BitVec.ofInt IntKind.i64.bits 1).toNat) == 1))] ⟨rfl, rfl, rfl, rfl, rfl, rfl, trivial⟩ (fun J => ?_)
        refine c_cond ((IntKind.i64.wrap ↑(BitVec.ofInt IntKind.i64.bits (Int.fdiv k_0 (2 ^ (min (Int.toNat (bit_s9)) IntKind.i64.bits))) &&& BitVec.ofInt IntKind.i64.bits 1).toNat) == 1) rfl (fun hb => ?_) (fun hb => ?_)
        · replace h := ite_t hb h
          refine c_seq ?_
          refine c_plain ?_
          refine x_pure 4 [(29, .int .i64 i_s8), (30, .int .i64 bit_s9), (31, .int .i64 round_1), (32, .int .i64 weight_s2)] _ _ _ (by kernel_rfl) ?_
          obtain ⟨x6, hx, h⟩ := bind_some h
          have hcall := code_count_w bit_s9 round_1 weight_s2 _ w5 hx
          refine x_call 26 #[] #[] [.int .i64 bit_s9, .int .i64 round_1, .int .i64 weight_s2] _ rfl rfl rfl rfl hcall ?_
          rintro v w7 ⟨rfl, he7⟩
          clear hcall hx
          refine ⟨.inl rfl, ?_⟩
          replace hms := hms.ev he7
          replace hev := hev.ext he7
          refine x_pure 2 [(34, .int .i64 (IntKind.i64.wrap (i_s8 + x6))), (8, .int .i64 (IntKind.i64.wrap (i_s8 + x6)))] _ _ _ (by kernel_rfl) ?_
          refine x_end rfl ?_
          refine k_then ?_
          refine c_norm [(0, .int .i64 k_0), (1, .int .i64 round_1), (2, .int .i64 weight_s2), (8, .int .i64 (IntKind.i64.wrap (i_s8 + x6))), (9, .int .i64 bit_s9)] ⟨rfl, rfl, rfl, rfl, rfl, trivial⟩ (fun J => ?_)
          refine c_plain ?_
          refine x_pure 3 [(35, .int .i64 weight_s2), (36, .int .i64 (IntKind.i64.wrap (weight_s2 - 1))), (2, .int .i64 (IntKind.i64.wrap (weight_s2 - 1)))] _ _ _ (by kernel_rfl) ?_
          refine x_end rfl ?_
          refine k_block ?_
          refine k_then ?_
          refine c_norm [(0, .int .i64 k_0), (1, .int .i64 round_1), (2, .int .i64 (IntKind.i64.wrap (weight_s2 - 1))), (8, .int .i64 (IntKind.i64.wrap (i_s8 + x6))), (9, .int .i64 bit_s9)] ⟨rfl, rfl, rfl, rfl, rfl, trivial⟩ (fun J => ?_)
          refine c_plain ?_
          refine x_pure 3 [(22, .int .i64 bit_s9), (23, .int .i64 (IntKind.i64.wrap (bit_s9 - 1))), (9, .int .i64 (IntKind.i64.wrap (bit_s9 - 1)))] _ _ _ (by kernel_rfl) ?_
          refine x_end rfl ?_
          have hx := some_inj h
          subst hx
          exact k_then ⟨(m5, IntKind.i64.wrap (weight_s2 - 1), IntKind.i64.wrap (i_s8 + x6), IntKind.i64.wrap (bit_s9 - 1)), ⟨rfl, rfl, rfl, rfl, rfl, trivial⟩, ⟨hn5, hev, hms, hfr⟩, Nat.lt_succ_self _⟩
        · replace h := ite_f hb h
          refine c_skip ?_
          refine k_block ?_
          refine k_then ?_
          refine c_norm [(0, .int .i64 k_0), (1, .int .i64 round_1), (2, .int .i64 weight_s2), (8, .int .i64 i_s8), (9, .int .i64 bit_s9)] ⟨rfl, rfl, rfl, rfl, rfl, trivial⟩ (fun J => ?_)
          refine c_plain ?_
          refine x_pure 3 [(22, .int .i64 bit_s9), (23, .int .i64 (IntKind.i64.wrap (bit_s9 - 1))), (9, .int .i64 (IntKind.i64.wrap (bit_s9 - 1)))] _ _ _ (by kernel_rfl) ?_
          refine x_end rfl ?_
          have hx := some_inj h
          subst hx
          exact k_then ⟨(m5, weight_s2, i_s8, IntKind.i64.wrap (bit_s9 - 1)), ⟨rfl, rfl, rfl, rfl, rfl, trivial⟩, ⟨hn5, hev, hms, hfr⟩, Nat.lt_succ_self _⟩
      · replace h := ite_f hb h
        refine c_exit ?_
        refine k_then_exit ?_
        have hx := some_inj h
        subst hx
        have hy := some_inj hn5
        subst hy
        replace h := h5
        refine k_then_exit ?_
        refine k_block_in ?_
        refine k_then ?_
        refine c_norm [(8, .int .i64 i_s8)] ⟨rfl, trivial⟩ (fun J => ?_)
        refine c_seq ?_
        refine c_plain ?_
        refine x_pure 3 [(37, .int .i64 i_s8), (6, .int .i64 i_s8), (7, .int .i64 0)] _ _ _ (by kernel_rfl) ?_
        refine x_end rfl ?_
        refine k_then ?_
        refine c_norm [(6, .int .i64 i_s8), (7, .int .i64 0)] ⟨rfl, rfl, trivial⟩ (fun J => ?_)
        refine c_ret ?_
        refine r_ret (r_two (.int .i64 i_s8) (.int .i64 0) rfl rfl ?_)
        have hx := some_inj h
        subst hx
        exact ⟨rfl, hev⟩
def code_Real_L11 (k_0 : Int) (s : Int × (List Int)) : Option (Step (Int × (List Int)) (List Int)) :=
match s with
| (bit_s7, d10g11) =>
(if (decide (bit_s7 < 12)) = true then
(if 0 ≤ bit_s7 then
(if ((IntKind.i64.wrap ↑(BitVec.ofInt IntKind.i64.bits (Int.fdiv k_0 (2 ^ (min (Int.toNat (bit_s7)) IntKind.i64.bits))) &&& BitVec.ofInt IntKind.i64.bits 1).toNat) == 1) = true then
(if d10g11.length + ([bit_s7]).length ≤ 4294967296 then
some (.next (IntKind.i64.wrap (bit_s7 + 1), (d10g11 ++ [bit_s7])))
else none)
else
some (.next (IntKind.i64.wrap (bit_s7 + 1), d10g11)))
else none)
else
some (.done d10g11))

def code_Real (k_0 : Int) (round_1 : Int) : Option ((List Int) × Int) :=
((code_in round_1 0 12).bind fun x1 =>
(if (!x1) = true then
some ([], 2)
else
((code_in k_0 0 4095).bind fun x3 =>
(if (!x3) = true then
some ([], 2)
else
((code_missed round_1).bind fun x5 =>
((code_missed round_1).bind fun x7 =>
(if ((IntKind.i64.wrap ↑(BitVec.ofInt IntKind.i64.bits k_0 &&& BitVec.ofInt IntKind.i64.bits x5).toNat) != x7) = true then
some ([], 15)
else
((loop (code_Real_L11 k_0) (round_1, ([] : List Int))).bind fun d => match d with
| d10x => some (d10x, 0)))))))))

theorem code_Real_w (k_0 : Int) (round_1 : Int) (r : (List Int) × Int) (w : World) (M : List Nat) (hms : MS w [M]) (h : code_Real k_0 round_1 = some r) : CallVC Try.prog 18 [.int .i64 k_0, .int .i64 round_1] w fun v w' => ∃ (a0' : Option Addr), ∃ (c0' : Nat), v = .tuple #[.slice a0' (r.1).length c0', .int .i64 r.2] ∧ Ev [] w w' ∧ MS w' [blk a0', M] ∧ FR w.heap.size [blk a0'] ∧ OwnS (eInt .i64) 3 w' (fl [blk a0', M]) a0' c0' r.1 := by
  refine calls_vc hmx Try.func18 (by kernel_rfl) rfl (rs := [.tmp 4, .tmp 5]) rfl (by kernel_rfl) (args := [.int .i64 k_0, .int .i64 round_1]) rfl ?_
  have hev : Ev [] w w := Ev.refl _ _
  have hfr : FR w.heap.size [] := FR.nil _
  refine c_seq ?_
  refine c_plain ?_
  refine x_pure 2 [(4, .slice none 0 0), (5, .int .i64 0)] _ _ _ (by kernel_rfl) ?_
  refine x_end rfl ?_
  refine k_then ?_
  refine c_norm [(0, .int .i64 k_0), (1, .int .i64 round_1)] ⟨rfl, rfl, trivial⟩ (fun J => ?_)
  refine c_seq ?_
  refine c_seq ?_
  refine c_plain ?_
  refine x_pure 1 [(8, .int .i64 round_1)] _ _ _ (by kernel_rfl) ?_
  obtain ⟨x1, hx, h⟩ := bind_some h
  have hcall := code_in_w round_1 0 12 _ w hx
  refine x_call 25 #[] #[] [.int .i64 round_1, .int .i64 0, .int .i64 12] _ rfl rfl rfl rfl hcall ?_
  rintro v w2 ⟨rfl, he2⟩
  clear hcall hx
  refine ⟨.inl rfl, ?_⟩
  replace hms := hms.ev he2
  replace hev := hev.ext he2
  refine x_pure 2 [(10, .bool (!x1)), (11, .bool (!x1))] _ _ _ (by kernel_rfl) ?_
  refine x_split 11 (!x1) rfl (fun hb => ?_) (fun hb => ?_)
  · replace h := ite_t hb h
    refine x_pure 4 [(12, undef), (13, undef), (14, undef), (15, .bool true)] _ _ _ (by kernel_rfl) ?_
    refine x_end rfl ?_
    refine k_then ?_
    refine c_norm [(0, .int .i64 k_0), (1, .int .i64 round_1), (15, .bool true)] ⟨rfl, rfl, rfl, trivial⟩ (fun J => ?_)
    refine c_true rfl ?_
    refine c_seq ?_
    refine c_plain ?_
    refine x_pure 2 [(4, .slice none 0 0), (5, .int .i64 2)] _ _ _ (by kernel_rfl) ?_
    refine x_end rfl ?_
    refine k_then ?_
    refine c_norm [(4, .slice none 0 0), (5, .int .i64 2)] ⟨rfl, rfl, trivial⟩ (fun J => ?_)
    refine c_ret ?_
    refine k_then_ret ?_
    refine r_ret (r_two (.slice none 0 0) (.int .i64 2) rfl rfl ?_)
    have hx := some_inj h
    subst hx
    have hmr : MS w2 [blk none, M] := hms.pick [none, some 0] _ rfl
    have hfe : FR w.heap.size [blk none] := hfr.pick [none] _ rfl
    have hsu : ∀ x ∈ fl [blk none, M], x ∈ fl [M] := pick_sub [none, some 0] _ rfl
    exact ⟨none, 0, rfl, hev, hmr, hfe, OwnS.nil _ _ _ _⟩
  · replace h := ite_f hb h
    refine x_pure 1 [(12, .int .i64 k_0)] _ _ _ (by kernel_rfl) ?_
    obtain ⟨x3, hx, h⟩ := bind_some h
    have hcall := code_in_w k_0 0 4095 _ w2 hx
    refine x_call 25 #[] #[] [.int .i64 k_0, .int .i64 0, .int .i64 4095] _ rfl rfl rfl rfl hcall ?_
    rintro v w4 ⟨rfl, he4⟩
    clear hcall hx
    refine ⟨.inl rfl, ?_⟩
    replace hms := hms.ev he4
    replace hev := hev.ext he4
    refine x_pure 2 [(14, .bool (!x3)), (15, .bool (!x3))] _ _ _ (by kernel_rfl) ?_
    refine x_end rfl ?_
    refine k_then ?_
    refine c_norm [(0, .int .i64 k_0), (1, .int .i64 round_1), (15, .bool (!x3))] ⟨rfl, rfl, rfl, trivial⟩ (fun J => ?_)
    refine c_cond (!x3) rfl (fun hb => ?_) (fun hb => ?_)
    · replace h := ite_t hb h
      refine c_seq ?_
      refine c_plain ?_
      refine x_pure 2 [(4, .slice none 0 0), (5, .int .i64 2)] _ _ _ (by kernel_rfl) ?_
      refine x_end rfl ?_
      refine k_then ?_
      refine c_norm [(4, .slice none 0 0), (5, .int .i64 2)] ⟨rfl, rfl, trivial⟩ (fun J => ?_)
      refine c_ret ?_
      refine k_then_ret ?_
      refine r_ret (r_two (.slice none 0 0) (.int .i64 2) rfl rfl ?_)
      have hx := some_inj h
      subst hx
      have hmr : MS w4 [blk none, M] := hms.pick [none, some 0] _ rfl
      have hfe : FR w.heap.size [blk none] := hfr.pick [none] _ rfl
      have hsu : ∀ x ∈ fl [blk none, M], x ∈ fl [M] := pick_sub [none, some 0] _ rfl
      exact ⟨none, 0, rfl, hev, hmr, hfe, OwnS.nil _ _ _ _⟩
    · replace h := ite_f hb h
      refine c_skip ?_
      refine k_then ?_
      refine c_norm [(0, .int .i64 k_0), (1, .int .i64 round_1)] ⟨rfl, rfl, trivial⟩ (fun J => ?_)
      refine c_seq ?_
      refine c_seq ?_
      refine c_plain ?_
      refine x_pure 2 [(16, .int .i64 k_0), (17, .int .i64 round_1)] _ _ _ (by kernel_rfl) ?_
      obtain ⟨x5, hx, h⟩ := bind_some h
      have hcall := code_missed_w round_1 _ w4 hx
      refine x_call 23 #[] #[] [.int .i64 round_1] _ rfl rfl rfl rfl hcall ?_
      rintro v w6 ⟨rfl, he6⟩
      clear hcall hx
      refine ⟨.inl rfl, ?_⟩
      replace hms := hms.ev he6
      replace hev := hev.ext he6
      refine x_pure 2 [(19, .int .i64 (IntKind.i64.wrap ↑(BitVec.ofInt IntKind.i64.bits k_0 &&& BitVec.ofInt IntKind.i64.bits x5).toNat)), (20, .int .i64 round_1)] _ _ _ (by kernel_rfl) ?_
      obtain ⟨x7, hx, h⟩ := bind_some h
      have hcall := code_missed_w round_1 _ w6 hx
      refine x_call 23 #[] #[] [.int .i64 round_1] _ rfl rfl rfl rfl hcall ?_
      rintro v w8 ⟨rfl, he8⟩
      clear hcall hx
      refine ⟨.inl rfl, ?_⟩
      replace hms := hms.ev he8
      replace hev := hev.ext he8
      refine x_pure 1 [(22, .bool ((IntKind.i64.wrap ↑(BitVec.ofInt IntKind.i64.bits k_0 &&& BitVec.ofInt IntKind.i64.bits x5).toNat) != x7))] _ _ _ (by kernel_rfl) ?_
      refine x_end rfl ?_
      refine k_then ?_
      refine c_norm [(0, .int .i64 k_0), (1, .int .i64 round_1), (22, .bool ((IntKind.i64.wrap ↑(BitVec.ofInt IntKind.i64.bits k_0 &&& BitVec.ofInt IntKind.i64.bits x5).toNat) != x7))] ⟨rfl, rfl, rfl, trivial⟩ (fun J => ?_)
      refine c_cond ((IntKind.i64.wrap ↑(BitVec.ofInt IntKind.i64.bits k_0 &&& BitVec.ofInt IntKind.i64.bits x5).toNat) != x7) rfl (fun hb => ?_) (fun hb => ?_)
      · replace h := ite_t hb h
        refine c_seq ?_
        refine c_plain ?_
        refine x_pure 2 [(4, .slice none 0 0), (5, .int .i64 15)] _ _ _ (by kernel_rfl) ?_
        refine x_end rfl ?_
        refine k_then ?_
        refine c_norm [(4, .slice none 0 0), (5, .int .i64 15)] ⟨rfl, rfl, trivial⟩ (fun J => ?_)
        refine c_ret ?_
        refine k_then_ret ?_
        refine r_ret (r_two (.slice none 0 0) (.int .i64 15) rfl rfl ?_)
        have hx := some_inj h
        subst hx
        have hmr : MS w8 [blk none, M] := hms.pick [none, some 0] _ rfl
        have hfe : FR w.heap.size [blk none] := hfr.pick [none] _ rfl
        have hsu : ∀ x ∈ fl [blk none, M], x ∈ fl [M] := pick_sub [none, some 0] _ rfl
        exact ⟨none, 0, rfl, hev, hmr, hfe, OwnS.nil _ _ _ _⟩
      · replace h := ite_f hb h
        refine c_skip ?_
        refine k_then ?_
        refine c_norm [(0, .int .i64 k_0), (1, .int .i64 round_1)] ⟨rfl, rfl, trivial⟩ (fun J => ?_)
        refine c_seq ?_
        refine c_plain ?_
        refine x_pure 1 [(6, .slice none 0 0)] _ _ _ (by kernel_rfl) ?_
        refine x_end rfl ?_
        refine k_then ?_
        refine c_norm [(0, .int .i64 k_0), (1, .int .i64 round_1), (6, .slice none 0 0)] ⟨rfl, rfl, rfl, trivial⟩ (fun J => ?_)
        refine c_seq ?_
        refine c_seq ?_
        refine c_plain ?_
        refine x_pure 2 [(23, .int .i64 round_1), (7, .int .i64 round_1)] _ _ _ (by kernel_rfl) ?_
        refine x_end rfl ?_
        refine k_then ?_
        refine c_norm [(0, .int .i64 k_0), (6, .slice none 0 0), (7, .int .i64 round_1)] ⟨rfl, rfl, rfl, trivial⟩ (fun J => ?_)
        refine c_block ?_
        replace hms := hms.push (l := blk none) (Ev.refl [] _) (fun _ h => by cases h)
        replace hfr := hfr.push (l := blk none) (fun _ h => by cases h)
        have ho9 := OwnS.nil (eInt .i64) 3 w8 (fl [blk none, M])
        obtain ⟨d11, hd11, h11⟩ := bind_some h
        obtain ⟨m11, hd11⟩ := loop_some hd11
        refine c_loop (loop_rule hmx (σ := Nat × Int × (List Int) × Option Addr × Nat) (fun s => match s with | (_, bit_s7, d10g11, a10g11, c10g11) => [(0, .int .i64 k_0), (6, .slice a10g11 (d10g11).length c10g11), (7, .int .i64 bit_s7)]) (fun s w' => match s with | (m, bit_s7, d10g11, a10g11, c10g11) => loopN (code_Real_L11 k_0) m (bit_s7, d10g11) = some d11 ∧ Ev [] w w' ∧ MS w' [blk a10g11, M] ∧ FR w.heap.size [blk a10g11] ∧ OwnS (eInt .i64) 3 w' (fl [blk a10g11, M]) a10g11 c10g11 d10g11) (fun s => s.1) (m11, round_1, ([] : List Int), none, 0) ⟨rfl, rfl, rfl, trivial⟩ ⟨hd11, hev, hms, hfr, ho9⟩ ?_)
        rintro ⟨m11, bit_s7, d10g11, a10g11, c10g11⟩ J w11 ⟨hn11, hev, hms, hfr, ho9⟩
        rcases m11 with _ | m11
        · exact (loopN_zero hn11).elim
        obtain ⟨t11, h, hn11⟩ := bind_some hn11
        refine c_seq ?_
        refine c_seq ?_
        refine c_plain ?_
        refine x_pure 2 [(24, .int .i64 bit_s7), (25, .bool (decide (bit_s7 < 12)))] _ _ _ (by kernel_rfl) ?_
        refine x_end rfl ?_
        refine k_then ?_
        refine c_norm [(0, .int .i64 k_0), (6, .slice a10g11 (d10g11).length c10g11), (7, .int .i64 bit_s7), (25, .bool (decide (bit_s7 < 12)))] ⟨rfl, rfl, rfl, rfl, trivial⟩ (fun J => ?_)
        refine c_cond (decide (bit_s7 < 12)) rfl (fun hb => ?_) (fun hb => ?_)
        · replace h := ite_t hb h
          refine c_skip ?_
          refine k_then ?_
          refine c_norm [(0, .int .i64 k_0), (6, .slice a10g11 (d10g11).length c10g11), (7, .int .i64 bit_s7)] ⟨rfl, rfl, rfl, trivial⟩ (fun J => ?_)
          refine c_seq ?_
          refine c_block ?_
          refine c_seq ?_
          refine c_plain ?_
          refine x_pure 2 [(28, .int .i64 k_0), (29, .int .i64 bit_s7)] _ _ _ (by kernel_rfl) ?_
          refine x_binop (.int .i64 (Int.fdiv k_0 (2 ^ (min (Int.toNat (bit_s7)) IntKind.i64.bits)))) (.int .i64 k_0) (.int .i64 bit_s7) rfl rfl rfl rfl (vb_shr (guard_l h)) ?_
          replace h := guard_r h
          refine x_pure 2 [(31, .int .i64 (IntKind.i64.wrap ↑(BitVec.ofInt IntKind.i64.bits (Int.fdiv k_0 (2 ^ (min (Int.toNat (bit_s7)) IntKind.i64.bits))) &&& BitVec.ofInt IntKind.i64.bits 1).toNat)), (32, .bool ((IntKind.i64.wrap ↑(BitVec.ofInt IntKind.i64.bits (Int.fdiv k_0 (2 ^ (min (Int.toNat (bit_s7)) IntKind.i64.bits))) &&& BitVec.ofInt IntKind.i64.bits 1).toNat) == 1))] _ _ _ (by kernel_rfl) ?_
          refine x_end rfl ?_
          refine k_then ?_
          refine c_norm [(0, .int .i64 k_0), (6, .slice a10g11 (d10g11).length c10g11), (7, .int .i64 bit_s7), (32, .bool ((IntKind.i64.wrap ↑(BitVec.ofInt IntKind.i64.bits (Int.fdiv k_0 (2 ^ (min (Int.toNat (bit_s7)) IntKind.i64.bits))) &&& BitVec.ofInt IntKind.i64.bits 1).toNat) == 1))] ⟨rfl, rfl, rfl, rfl, trivial⟩ (fun J => ?_)
          refine c_cond ((IntKind.i64.wrap ↑(BitVec.ofInt IntKind.i64.bits (Int.fdiv k_0 (2 ^ (min (Int.toNat (bit_s7)) IntKind.i64.bits))) &&& BitVec.ofInt IntKind.i64.bits 1).toNat) == 1) rfl (fun hb => ?_) (fun hb => ?_)
          · replace h := ite_t hb h
            refine c_plain ?_
            refine x_pure 2 [(33, .slice a10g11 (d10g11).length c10g11), (34, .int .i64 bit_s7)] _ _ _ (by kernel_rfl) ?_
            refine x_buildSlice (vs := [(0, .int .i64 bit_s7)]) #[.int .i64 bit_s7] 3 rfl rfl rfl (by kernel_rfl) (fun b12 w12 hq12 hb12 he12 _ => ?_)
            refine ⟨.inl rfl, ?_⟩
            have hs12 : SlR (eInt .i64) w12 (fl [blk a10g11, M]) (some ⟨b12, 0, none⟩) 1 ([bit_s7]) := ro_of_box hms hq12 hb12 rfl rfl (vals_at (Value.int .i64) rfl (fun _ _ _ => rfl) _ _ _)
            clear hb12
            have hst := Stp.ext (ls := [blk a10g11, M]) he12
            replace ho9 := ho9.step hst he12 (fun _ _ h => by cases h)
            replace hms := hms.ev he12
            replace hev := hev.ext he12
            have hg := guard_l h
            replace h := guard_r h
            obtain ⟨a14, c14, w14, hr14, he14, hn14, hw14⟩ := own_append tel22 22 ho9 (mem_flat 0 rfl) hs12 hg
            refine x_builtin (vs := [.slice a10g11 (d10g11).length c10g11, .slice (some ⟨b12, 0, none⟩) ([bit_s7]).length 1]) _ w14 rfl rfl rfl rfl (run_value _ _ _ _ hr14) ?_
            refine ⟨.inl rfl, ?_⟩
            have hst : Stp (fl [blk a10g11, M]) w12 (fl [blk a14, M]) w14 := Stp.upd 0 he14 rfl (fun b hb => (hn14 b hb).1)
            replace hs12 := hs12.step hst
            replace hms : MS w14 [blk a14, M] := hms.upd 0 he14 rfl hn14
            have hfr2 : FR w.heap.size [blk a14] := hfr.upd 0 rfl hev.size (fun b hb => (hn14 b hb).1)
            replace hev := hev.then he14 (fun b hb => .inr (hfr.at 0 rfl b hb))
            replace hfr := hfr2
            clear hfr2
            replace ho9 := hw14 (fl [blk a14, M]) hst.new
            clear hw14
            refine x_pure 1 [(6, .slice a14 ((d10g11 ++ [bit_s7])).length c14)] _ _ _ (by kernel_rfl) ?_
            refine x_end rfl ?_
            refine k_block ?_
            refine k_then ?_
            refine c_norm [(0, .int .i64 k_0), (6, .slice a14 ((d10g11 ++ [bit_s7])).length c14), (7, .int .i64 bit_s7)] ⟨rfl, rfl, rfl, trivial⟩ (fun J => ?_)
            refine c_plain ?_
            refine x_pure 3 [(26, .int .i64 bit_s7), (27, .int .i64 (IntKind.i64.wrap (bit_s7 + 1))), (7, .int .i64 (IntKind.i64.wrap (bit_s7 + 1)))] _ _ _ (by kernel_rfl) ?_
            refine x_end rfl ?_
            have hx := some_inj h
            subst hx
            exact k_then ⟨(m11, IntKind.i64.wrap (bit_s7 + 1), (d10g11 ++ [bit_s7]), a14, c14), ⟨rfl, rfl, rfl, trivial⟩, ⟨hn11, hev, hms, hfr, ho9⟩, Nat.lt_succ_self _⟩
          · replace h := ite_f hb h
            refine c_skip ?_
            refine k_block ?_
            refine k_then ?_
            refine c_norm [(0, .int .i64 k_0), (6, .slice a10g11 (d10g11).length c10g11), (7, .int .i64 bit_s7)] ⟨rfl, rfl, rfl, trivial⟩ (fun J => ?_)
            refine c_plain ?_
            refine x_pure 3 [(26, .int .i64 bit_s7), (27, .int .i64 (IntKind.i64.wrap (bit_s7 + 1))), (7, .int .i64 (IntKind.i64.wrap (bit_s7 + 1)))] _ _ _ (by kernel_rfl) ?_
            refine x_end rfl ?_
            have hx := some_inj h
            subst hx
            exact k_then ⟨(m11, IntKind.i64.wrap (bit_s7 + 1), d10g11, a10g11, c10g11), ⟨rfl, rfl, rfl, trivial⟩, ⟨hn11, hev, hms, hfr, ho9⟩, Nat.lt_succ_self _⟩
        · replace h := ite_f hb h
          refine c_exit ?_
          refine k_then_exit ?_
          have hx := some_inj h
          subst hx
          have hy := some_inj hn11
          subst hy
          replace h := h11
          refine k_then_exit ?_
          refine k_block_in ?_
          refine k_then ?_
          refine c_norm [(6, .slice a10g11 (d10g11).length c10g11)] ⟨rfl, trivial⟩ (fun J => ?_)
          refine c_seq ?_
          refine c_plain ?_
          refine x_pure 3 [(37, .slice a10g11 (d10g11).length c10g11), (4, .slice a10g11 (d10g11).length c10g11), (5, .int .i64 0)] _ _ _ (by kernel_rfl) ?_
          refine x_end rfl ?_
          refine k_then ?_
          refine c_norm [(4, .slice a10g11 (d10g11).length c10g11), (5, .int .i64 0)] ⟨rfl, rfl, trivial⟩ (fun J => ?_)
          refine c_ret ?_
          refine r_ret (r_two (.slice a10g11 (d10g11).length c10g11) (.int .i64 0) rfl rfl ?_)
          have hx := some_inj h
          subst hx
          have hmr : MS w11 [blk a10g11, M] := hms.pick [some 0, some 1] _ rfl
          have hfe : FR w.heap.size [blk a10g11] := hfr.pick [some 0] _ rfl
          have hsu : ∀ x ∈ fl [blk a10g11, M], x ∈ fl [blk a10g11, M] := pick_sub [some 0, some 1] _ rfl
          exact ⟨a10g11, c10g11, rfl, hev, hmr, hfe, ho9.sub hsu⟩
def code_Steps_L3 (s : Int × Int) : Option (Step (Int × Int) Int) :=
match s with
| (k_s0, n_s4) =>
(if (decide (k_s0 > 0)) = true then
some (.next (Int.fdiv k_s0 (2 ^ (min (Int.toNat (1)) IntKind.i64.bits)), IntKind.i64.wrap (n_s4 + 1)))
else
some (.done n_s4))

def code_Steps (k_0 : Int) : Option (Int × Int) :=
((code_in k_0 0 4095).bind fun x1 =>
(if (!x1) = true then
some (0, 2)
else
((loop code_Steps_L3 (k_0, 0)).bind fun d => match d with
| n_x4 => some (n_x4, 0))))

theorem code_Steps_w (k_0 : Int) (r : Int × Int) (w : World) (h : code_Steps k_0 = some r) : CallVC Try.prog 19 [.int .i64 k_0] w fun v w' => v = .tuple #[.int .i64 r.1, .int .i64 r.2] ∧ Ev [] w w' := by
  refine calls_vc hmx Try.func19 (by kernel_rfl) rfl (rs := [.tmp 2, .tmp 3]) rfl (by kernel_rfl) (args := [.int .i64 k_0]) rfl ?_
  have hev : Ev [] w w := Ev.refl _ _
  have hms : MS w [[]] := ⟨List.pairwise_singleton _ _, fun l hl b hb => by simp only [List.mem_singleton] at hl; subst hl; cases hb⟩
  have hfr : FR w.heap.size [] := FR.nil _
  refine c_seq ?_
  refine c_plain ?_
  refine x_pure 2 [(2, .int .i64 0), (3, .int .i64 0)] _ _ _ (by kernel_rfl) ?_
  refine x_end rfl ?_
  refine k_then ?_
  refine c_norm [(0, .int .i64 k_0)] ⟨rfl, trivial⟩ (fun J => ?_)
  refine c_seq ?_
  refine c_seq ?_
  refine c_plain ?_
  refine x_pure 1 [(5, .int .i64 k_0)] _ _ _ (by kernel_rfl) ?_
  obtain ⟨x1, hx, h⟩ := bind_some h
  have hcall := code_in_w k_0 0 4095 _ w hx
  refine x_call 25 #[] #[] [.int .i64 k_0, .int .i64 0, .int .i64 4095] _ rfl rfl rfl rfl hcall ?_
  rintro v w2 ⟨rfl, he2⟩
  clear hcall hx
  refine ⟨.inl rfl, ?_⟩
  replace hms := hms.ev he2
  replace hev := hev.ext he2
  refine x_pure 1 [(7, .bool (!x1))] _ _ _ (by kernel_rfl) ?_
  refine x_end rfl ?_
  refine k_then ?_
  refine c_norm [(0, .int .i64 k_0), (7, .bool (!x1))] ⟨rfl, rfl, trivial⟩ (fun J => ?_)
  refine c_cond (!x1) rfl (fun hb => ?_) (fun hb => ?_)
  · replace h := ite_t hb h
    refine c_seq ?_
    refine c_plain ?_
    refine x_pure 2 [(2, .int .i64 0), (3, .int .i64 2)] _ _ _ (by kernel_rfl) ?_
    refine x_end rfl ?_
    refine k_then ?_
    refine c_norm [(2, .int .i64 0), (3, .int .i64 2)] ⟨rfl, rfl, trivial⟩ (fun J => ?_)
    refine c_ret ?_
    refine k_then_ret ?_
    refine r_ret (r_two (.int .i64 0) (.int .i64 2) rfl rfl ?_)
    have hx := some_inj h
    subst hx
    exact ⟨rfl, hev⟩
  · replace h := ite_f hb h
    refine c_skip ?_
    refine k_then ?_
    refine c_norm [(0, .int .i64 k_0)] ⟨rfl, trivial⟩ (fun J => ?_)
    refine c_seq ?_
    refine c_plain ?_
    refine x_pure 1 [(4, .int .i64 0)] _ _ _ (by kernel_rfl) ?_
    refine x_end rfl ?_
    refine k_then ?_
    refine c_norm [(0, .int .i64 k_0), (4, .int .i64 0)] ⟨rfl, rfl, trivial⟩ (fun J => ?_)
    refine c_seq ?_
    refine c_block ?_
    obtain ⟨d3, hd3, h3⟩ := bind_some h
    obtain ⟨m3, hd3⟩ := loop_some hd3
    refine c_loop (loop_rule hmx (σ := Nat × Int × Int) (fun s => match s with | (_, k_s0, n_s4) => [(0, .int .i64 k_s0), (4, .int .i64 n_s4)]) (fun s w' => match s with | (m, k_s0, n_s4) => loopN code_Steps_L3 m (k_s0, n_s4) = some d3 ∧ Ev [] w w' ∧ MS w' [[]] ∧ FR w.heap.size []) (fun s => s.1) (m3, k_0, 0) ⟨rfl, rfl, trivial⟩ ⟨hd3, hev, hms, hfr⟩ ?_)
    rintro ⟨m3, k_s0, n_s4⟩ J w3 ⟨hn3, hev, hms, hfr⟩
    rcases m3 with _ | m3
    · exact (loopN_zero hn3).elim
    obtain ⟨t3, h, hn3⟩ := bind_some hn3
    refine c_seq ?_
    refine c_seq ?_
    refine c_plain ?_
    refine x_pure 2 [(8, .int .i64 k_s0), (9, .bool (decide (k_s0 > 0)))] _ _ _ (by kernel_rfl) ?_
    refine x_end rfl ?_
    refine k_then ?_
    refine c_norm [(0, .int .i64 k_s0), (4, .int .i64 n_s4), (9, .bool (decide (k_s0 > 0)))] ⟨rfl, rfl, rfl, trivial⟩ (fun J => ?_)
    refine c_cond (decide (k_s0 > 0)) rfl (fun hb => ?_) (fun hb => ?_)
    · replace h := ite_t hb h
      refine c_skip ?_
      refine k_then ?_
      refine c_norm [(0, .int .i64 k_s0), (4, .int .i64 n_s4)] ⟨rfl, rfl, trivial⟩ (fun J => ?_)
      refine c_seq ?_
      refine c_block ?_
      refine c_plain ?_
      refine x_pure 3 [(12, .int .i64 n_s4), (13, .int .i64 (IntKind.i64.wrap (n_s4 + 1))), (4, .int .i64 (IntKind.i64.wrap (n_s4 + 1)))] _ _ _ (by kernel_rfl) ?_
      refine x_end rfl ?_
      refine k_block ?_
      refine k_then ?_
      refine c_norm [(0, .int .i64 k_s0), (4, .int .i64 (IntKind.i64.wrap (n_s4 + 1)))] ⟨rfl, rfl, trivial⟩ (fun J => ?_)
      refine c_plain ?_
      refine x_pure 3 [(10, .int .i64 k_s0), (11, .int .i64 (Int.fdiv k_s0 (2 ^ (min (Int.toNat (1)) IntKind.i64.bits)))), (0, .int .i64 (Int.fdiv k_s0 (2 ^ (min (Int.toNat (1)) IntKind.i64.bits))))] _ _ _ (by kernel_rfl) ?_
      refine x_end rfl ?_
      have hx := some_inj h
      subst hx
      exact k_then ⟨(m3, Int.fdiv k_s0 (2 ^ (min (Int.toNat (1)) IntKind.i64.bits)), IntKind.i64.wrap (n_s4 + 1)), ⟨rfl, rfl, trivial⟩, ⟨hn3, hev, hms, hfr⟩, Nat.lt_succ_self _⟩
    · replace h := ite_f hb h
      refine c_exit ?_
      refine k_then_exit ?_
      have hx := some_inj h
      subst hx
      have hy := some_inj hn3
      subst hy
      replace h := h3
      refine k_then_exit ?_
      refine k_block_in ?_
      refine k_then ?_
      refine c_norm [(4, .int .i64 n_s4)] ⟨rfl, trivial⟩ (fun J => ?_)
      refine c_seq ?_
      refine c_plain ?_
      refine x_pure 3 [(14, .int .i64 n_s4), (2, .int .i64 n_s4), (3, .int .i64 0)] _ _ _ (by kernel_rfl) ?_
      refine x_end rfl ?_
      refine k_then ?_
      refine c_norm [(2, .int .i64 n_s4), (3, .int .i64 0)] ⟨rfl, rfl, trivial⟩ (fun J => ?_)
      refine c_ret ?_
      refine r_ret (r_two (.int .i64 n_s4) (.int .i64 0) rfl rfl ?_)
      have hx := some_inj h
      subst hx
      exact ⟨rfl, hev⟩
end Go.Proofs.Ytjcikgeffhghkaa
