/- Walks, printed by program: each function returns what the partial function of the same name returns. Conditions: those of each theorem. -/
import Derived.Test.YtgdaanhiagoonaaGT
set_option linter.unusedVariables false
set_option linter.unusedSimpArgs false
set_option maxRecDepth 4000
namespace Go.Proofs.Ytgdaanhiagoonaa
open Go Go.V Go.Proofs
def code_in (p0 : Int) (p1 : Int) (p2 : Int) : Option Bool :=
(if (decide (p0 ≥ p1)) = true then
some (decide (p0 ≤ p2))
else
some false)

theorem code_in_w (p0 : Int) (p1 : Int) (p2 : Int) (r : Bool) (w : World) (h : code_in p0 p1 p2 = some r) : CallVC Try.prog 52 [.int .i64 p0, .int .i64 p1, .int .i64 p2] w fun v w' => v = .bool r ∧ Ev [] w w' := by
  refine calls_vc hmx Try.func52 (by kernel_rfl) rfl (rs := [.tmp 6]) rfl (by kernel_rfl) (args := [.int .i64 p0, .int .i64 p1, .int .i64 p2]) rfl ?_
  have hev : Ev [] w w := Ev.refl _ _
  have hms : MS w [[]] := ⟨List.pairwise_singleton _ _, fun l hl b hb => by simp only [List.mem_singleton] at hl; subst hl; cases hb⟩
  have hfr : FR w.heap.size [] := FR.nil _
  refine c_seq (c_plain ?_)
  refine x_pure 1 [(6, .bool false)] _ _ _ (by kernel_rfl) ?_
  refine x_end rfl (k_then ?_)
  refine c_seq (c_plain ?_)
  refine x_pure 4 [(7, .int .i64 p0), (8, .int .i64 p1), (9, .bool (decide (p0 ≥ p1))), (10, .bool (decide (p0 ≥ p1)))] _ _ _ (by kernel_rfl) ?_
  refine x_split 10 (decide (p0 ≥ p1)) rfl (fun hb => ?_) (fun hb => ?_)
  · replace h := ite_t hb h
    refine x_pure 5 [(11, .int .i64 p0), (12, .int .i64 p2), (13, .bool (decide (p0 ≤ p2))), (14, .bool (decide (p0 ≤ p2))), (6, .bool (decide (p0 ≤ p2)))] _ _ _ (by kernel_rfl) ?_
    refine x_end rfl (k_then ?_)
    refine c_ret ?_
    refine r_ret (r_vals [.bool (decide (p0 ≤ p2))] ⟨rfl, trivial⟩ ?_)
    have hx := some_inj h
    subst hx
    exact ⟨rfl, hev⟩
  replace h := ite_f hb h
  refine x_pure 5 [(11, undef), (12, undef), (13, undef), (14, .bool false), (6, .bool false)] _ _ _ (by kernel_rfl) ?_
  refine x_end rfl (k_then ?_)
  refine c_ret ?_
  refine r_ret (r_vals [.bool false] ⟨rfl, trivial⟩ ?_)
  have hx := some_inj h
  subst hx
  exact ⟨rfl, hev⟩
def code_form (p0 : Int) (p1 : Int) : Option Bool :=
((code_in p0 0 12).bind fun x1 =>
(if x1 = true then
((code_in p1 0 12).bind fun x3 =>
some x3)
else
some false))

theorem code_form_w (p0 : Int) (p1 : Int) (r : Bool) (w : World) (h : code_form p0 p1 = some r) : CallVC Try.prog 51 [.int .i64 p0, .int .i64 p1] w fun v w' => v = .bool r ∧ Ev [] w w' := by
  refine calls_vc hmx Try.func51 (by kernel_rfl) rfl (rs := [.tmp 4]) rfl (by kernel_rfl) (args := [.int .i64 p0, .int .i64 p1]) rfl ?_
  have hev : Ev [] w w := Ev.refl _ _
  have hms : MS w [[]] := ⟨List.pairwise_singleton _ _, fun l hl b hb => by simp only [List.mem_singleton] at hl; subst hl; cases hb⟩
  have hfr : FR w.heap.size [] := FR.nil _
  refine c_seq (c_plain ?_)
  refine x_pure 1 [(4, .bool false)] _ _ _ (by kernel_rfl) ?_
  refine x_end rfl (k_then ?_)
  refine c_seq (c_plain ?_)
  refine x_pure 1 [(5, .int .i64 p0)] _ _ _ (by kernel_rfl) ?_
  obtain ⟨x1, hx, h⟩ := bind_some h
  have hcall := code_in_w p0 0 12 _ w hx
  refine x_call 52 #[] #[] [.int .i64 p0, .int .i64 0, .int .i64 12] _ rfl rfl rfl rfl hcall ?_
  rintro v w2 ⟨rfl, he2⟩
  clear hcall hx
  refine ⟨.inl rfl, ?_⟩
  replace hms := hms.ev he2
  replace hev := hev.ext he2
  refine x_pure 1 [(7, .bool x1)] _ _ _ (by kernel_rfl) ?_
  refine x_split 7 x1 rfl (fun hb => ?_) (fun hb => ?_)
  · replace h := ite_t hb h
    refine x_pure 1 [(8, .int .i64 p1)] _ _ _ (by kernel_rfl) ?_
    obtain ⟨x3, hx, h⟩ := bind_some h
    have hcall := code_in_w p1 0 12 _ w2 hx
    refine x_call 52 #[] #[] [.int .i64 p1, .int .i64 0, .int .i64 12] _ rfl rfl rfl rfl hcall ?_
    rintro v w4 ⟨rfl, he4⟩
    clear hcall hx
    refine ⟨.inl rfl, ?_⟩
    replace hms := hms.ev he4
    replace hev := hev.ext he4
    refine x_pure 2 [(10, .bool x3), (4, .bool x3)] _ _ _ (by kernel_rfl) ?_
    refine x_end rfl (k_then ?_)
    refine c_ret ?_
    refine r_ret (r_vals [.bool x3] ⟨rfl, trivial⟩ ?_)
    have hx := some_inj h
    subst hx
    exact ⟨rfl, hev⟩
  replace h := ite_f hb h
  refine x_pure 4 [(8, undef), (9, undef), (10, .bool false), (4, .bool false)] _ _ _ (by kernel_rfl) ?_
  refine x_end rfl (k_then ?_)
  refine c_ret ?_
  refine r_ret (r_vals [.bool false] ⟨rfl, trivial⟩ ?_)
  have hx := some_inj h
  subst hx
  exact ⟨rfl, hev⟩
def code_missed (p0 : Int) : Option Int :=
(if 0 ≤ p0 then
some (IntKind.i64.wrap ((IntKind.i64.wrap (1 * 2 ^ (min (Int.toNat (p0)) IntKind.i64.bits))) - 1))
else none)

theorem code_missed_w (p0 : Int) (r : Int) (w : World) (h : code_missed p0 = some r) : CallVC Try.prog 55 [.int .i64 p0] w fun v w' => v = .int .i64 r ∧ Ev [] w w' := by
  refine calls_vc hmx Try.func55 (by kernel_rfl) rfl (rs := [.tmp 2]) rfl (by kernel_rfl) (args := [.int .i64 p0]) rfl ?_
  have hev : Ev [] w w := Ev.refl _ _
  have hms : MS w [[]] := ⟨List.pairwise_singleton _ _, fun l hl b hb => by simp only [List.mem_singleton] at hl; subst hl; cases hb⟩
  have hfr : FR w.heap.size [] := FR.nil _
  refine c_seq (c_plain ?_)
  refine x_pure 1 [(2, .int .i64 0)] _ _ _ (by kernel_rfl) ?_
  refine x_end rfl (k_then ?_)
  refine c_seq (c_plain ?_)
  refine x_pure 1 [(3, .int .i64 p0)] _ _ _ (by kernel_rfl) ?_
  refine x_binop (.int .i64 (IntKind.i64.wrap (1 * 2 ^ (min (Int.toNat (p0)) IntKind.i64.bits)))) (.int .i64 1) (.int .i64 p0) rfl rfl rfl rfl (vb_shl (guard_l h)) ?_
  replace h := guard_r h
  refine x_pure 2 [(5, .int .i64 (IntKind.i64.wrap ((IntKind.i64.wrap (1 * 2 ^ (min (Int.toNat (p0)) IntKind.i64.bits))) - 1))), (2, .int .i64 (IntKind.i64.wrap ((IntKind.i64.wrap (1 * 2 ^ (min (Int.toNat (p0)) IntKind.i64.bits))) - 1)))] _ _ _ (by kernel_rfl) ?_
  refine x_end rfl (k_then ?_)
  refine c_ret ?_
  refine r_ret (r_vals [.int .i64 (IntKind.i64.wrap ((IntKind.i64.wrap (1 * 2 ^ (min (Int.toNat (p0)) IntKind.i64.bits))) - 1))] ⟨rfl, trivial⟩ ?_)
  have hx := some_inj h
  subst hx
  exact ⟨rfl, hev⟩
def code_ones_L1 (s : Int × Int) : Option (Step (Int × Int) Int) :=
match s with
| (k_s0_l1, n_s3_l1) =>
(if (k_s0_l1 != 0) = true then
some (.next (IntKind.i64.wrap ↑(BitVec.ofInt IntKind.i64.bits k_s0_l1 &&& BitVec.ofInt IntKind.i64.bits (IntKind.i64.wrap (k_s0_l1 - 1))).toNat, IntKind.i64.wrap (n_s3_l1 + 1)))
else
some (.done n_s3_l1))

def code_ones (p0 : Int) : Option Int :=
((loop code_ones_L1 (p0, 0)).bind fun d => match d with
| n_s3_x1 => some n_s3_x1)

theorem code_ones_w (p0 : Int) (r : Int) (w : World) (h : code_ones p0 = some r) : CallVC Try.prog 61 [.int .i64 p0] w fun v w' => v = .int .i64 r ∧ Ev [] w w' := by
  refine calls_vc hmx Try.func61 (by kernel_rfl) rfl (rs := [.tmp 2]) rfl (by kernel_rfl) (args := [.int .i64 p0]) rfl ?_
  have hev : Ev [] w w := Ev.refl _ _
  have hms : MS w [[]] := ⟨List.pairwise_singleton _ _, fun l hl b hb => by simp only [List.mem_singleton] at hl; subst hl; cases hb⟩
  have hfr : FR w.heap.size [] := FR.nil _
  refine c_seq (c_plain ?_)
  refine x_pure 1 [(2, .int .i64 0)] _ _ _ (by kernel_rfl) ?_
  refine x_end rfl (k_then ?_)
  refine c_seq (c_plain ?_)
  refine x_pure 1 [(3, .int .i64 0)] _ _ _ (by kernel_rfl) ?_
  refine x_end rfl (k_then ?_)
  refine c_seq ?_
  refine c_block ?_
  obtain ⟨d1, hd1, h1⟩ := bind_some h
  obtain ⟨m1, hd1⟩ := loop_some hd1
  refine c_loop (loop_rule hmx (σ := Nat × Int × Int) (fun s => match s with | (_, k_s0_l1, n_s3_l1) => [(0, .int .i64 k_s0_l1), (3, .int .i64 n_s3_l1)]) (fun s w' => match s with | (m, k_s0_l1, n_s3_l1) => loopN code_ones_L1 m (k_s0_l1, n_s3_l1) = some d1 ∧ Ev [] w w' ∧ MS w' [[]] ∧ FR w.heap.size []) (fun s => s.1) (m1, p0, 0) ⟨rfl, rfl, trivial⟩ ⟨hd1, hev, hms, hfr⟩ ?_)
  rintro ⟨m1, k_s0_l1, n_s3_l1⟩ J wl1 ⟨hn1, hev, hms, hfr⟩
  rcases m1 with _ | m1
  · exact (loopN_zero hn1).elim
  obtain ⟨t1, h, hn1⟩ := bind_some hn1
  refine c_seq ?_
  refine c_seq (c_plain ?_)
  refine x_pure 2 [(4, .int .i64 k_s0_l1), (5, .bool (k_s0_l1 != 0))] _ _ _ (by kernel_rfl) ?_
  refine x_end rfl (k_then ?_)
  refine c_norm [(0, .int .i64 k_s0_l1), (3, .int .i64 n_s3_l1), (5, .bool (k_s0_l1 != 0))] ⟨rfl, rfl, rfl, trivial⟩ (fun J => ?_)
  refine c_cond (k_s0_l1 != 0) rfl (fun hb => ?_) (fun hb => ?_)
  · replace h := ite_t hb h
    refine c_skip ?_
    refine k_then ?_
    refine c_seq ?_
    refine c_block ?_
    refine c_plain ?_
    refine x_pure 3 [(10, .int .i64 n_s3_l1), (11, .int .i64 (IntKind.i64.wrap (n_s3_l1 + 1))), (3, .int .i64 (IntKind.i64.wrap (n_s3_l1 + 1)))] _ _ _ (by kernel_rfl) ?_
    refine x_end rfl ?_
    refine k_block ?_
    refine k_then ?_
    refine c_plain ?_
    refine x_pure 5 [(6, .int .i64 k_s0_l1), (7, .int .i64 k_s0_l1), (8, .int .i64 (IntKind.i64.wrap (k_s0_l1 - 1))), (9, .int .i64 (IntKind.i64.wrap ↑(BitVec.ofInt IntKind.i64.bits k_s0_l1 &&& BitVec.ofInt IntKind.i64.bits (IntKind.i64.wrap (k_s0_l1 - 1))).toNat)), (0, .int .i64 (IntKind.i64.wrap ↑(BitVec.ofInt IntKind.i64.bits k_s0_l1 &&& BitVec.ofInt IntKind.i64.bits (IntKind.i64.wrap (k_s0_l1 - 1))).toNat))] _ _ _ (by kernel_rfl) ?_
    refine x_end rfl ?_
    have hx := some_inj h
    subst hx
    exact k_then ⟨(m1, IntKind.i64.wrap ↑(BitVec.ofInt IntKind.i64.bits k_s0_l1 &&& BitVec.ofInt IntKind.i64.bits (IntKind.i64.wrap (k_s0_l1 - 1))).toNat, IntKind.i64.wrap (n_s3_l1 + 1)), ⟨rfl, rfl, trivial⟩, ⟨hn1, hev, hms, hfr⟩, Nat.lt_succ_self _⟩
  replace h := ite_f hb h
  refine c_exit ?_
  refine k_then_exit ?_
  have hx := some_inj h
  subst hx
  have hy := some_inj hn1
  subst hy
  replace h := h1
  refine k_then_exit ?_
  refine k_block_in ?_
  refine k_then ?_
  refine c_norm [(3, .int .i64 n_s3_l1)] ⟨rfl, trivial⟩ (fun J => ?_)
  refine c_seq (c_plain ?_)
  refine x_pure 2 [(12, .int .i64 n_s3_l1), (2, .int .i64 n_s3_l1)] _ _ _ (by kernel_rfl) ?_
  refine x_end rfl (k_then ?_)
  refine c_ret ?_
  refine r_ret (r_vals [.int .i64 n_s3_l1] ⟨rfl, trivial⟩ ?_)
  have hx := some_inj h
  subst hx
  exact ⟨rfl, hev⟩
def code_Next_L9 (p2 : Int) (s : Int) : Option (Step Int (Unit ⊕ Int)) :=
match s with
| real_s8_l9 =>
((code_ones real_s8_l9).bind fun x11 =>
(if (decide (x11 > p2)) = true then
(if (decide ((IntKind.i64.wrap (real_s8_l9 + (IntKind.i64.wrap ↑(BitVec.ofInt IntKind.i64.bits real_s8_l9 &&& BitVec.ofInt IntKind.i64.bits (IntKind.i64.wrap (0 - real_s8_l9))).toNat))) ≥ 4096)) = true then
some (.done (.inl ()))
else
some (.next (IntKind.i64.wrap (real_s8_l9 + (IntKind.i64.wrap ↑(BitVec.ofInt IntKind.i64.bits real_s8_l9 &&& BitVec.ofInt IntKind.i64.bits (IntKind.i64.wrap (0 - real_s8_l9))).toNat)))))
else
some (.done (.inr real_s8_l9))))

def code_Next_J5 (p1 : Int) (p2 : Int) (real_s8_j5 : Int) : Option (Int × Int) :=
((loop (code_Next_L9 p2) real_s8_j5).bind fun d => match d with
| (.inl _) => some (0, 15)
| (.inr real_s8_x901) => (if 0 ≤ p1 then
((code_missed p1).bind fun x13 =>
(if (decide ((IntKind.i64.wrap ↑(BitVec.ofInt IntKind.i64.bits (IntKind.i64.wrap (real_s8_x901 * 2 ^ (min (Int.toNat (p1)) IntKind.i64.bits))) ||| BitVec.ofInt IntKind.i64.bits x13).toNat) < 4096)) = true then
some (IntKind.i64.wrap ↑(BitVec.ofInt IntKind.i64.bits (IntKind.i64.wrap (real_s8_x901 * 2 ^ (min (Int.toNat (p1)) IntKind.i64.bits))) ||| BitVec.ofInt IntKind.i64.bits x13).toNat, 0)
else
some (0, 15)))
else none))

def code_Next (p0 : Int) (p1 : Int) (p2 : Int) : Option (Int × Int) :=
((code_form p1 p2).bind fun x2 =>
(if (!x2) = true then
some (0, 2)
else
(if (decide (p0 < 0)) = true then
some (0, 2)
else
(if (decide (p0 ≥ 4096)) = true then
some (0, 15)
else
((code_missed p1).bind fun x6 =>
(if (decide (p0 > x6)) = true then
(if 0 ≤ p1 then
(if 0 ≤ p1 then
code_Next_J5 p1 p2 (Int.fdiv (IntKind.i64.wrap ((IntKind.i64.wrap ((IntKind.i64.wrap (p0 - x6)) + (IntKind.i64.wrap (1 * 2 ^ (min (Int.toNat (p1)) IntKind.i64.bits))))) - 1)) (2 ^ (min (Int.toNat (p1)) IntKind.i64.bits)))
else none)
else none)
else
code_Next_J5 p1 p2 0))))))

theorem code_Next_w (p0 : Int) (p1 : Int) (p2 : Int) (r : Int × Int) (w : World) (h : code_Next p0 p1 p2 = some r) : CallVC Try.prog 50 [.int .i64 p0, .int .i64 p1, .int .i64 p2] w fun v w' => v = .tuple #[.int .i64 r.1, .int .i64 r.2] ∧ Ev [] w w' := by
  refine calls_vc hmx Try.func50 (by kernel_rfl) rfl (rs := [.tmp 6, .tmp 7]) rfl (by kernel_rfl) (args := [.int .i64 p0, .int .i64 p1, .int .i64 p2]) rfl ?_
  have hev : Ev [] w w := Ev.refl _ _
  have hms : MS w [[]] := ⟨List.pairwise_singleton _ _, fun l hl b hb => by simp only [List.mem_singleton] at hl; subst hl; cases hb⟩
  have hfr : FR w.heap.size [] := FR.nil _
  refine c_seq (c_plain ?_)
  refine x_pure 2 [(6, .int .i64 0), (7, .int .i64 0)] _ _ _ (by kernel_rfl) ?_
  refine x_end rfl (k_then ?_)
  refine c_seq ?_
  refine c_seq (c_plain ?_)
  refine x_pure 2 [(11, .int .i64 p1), (12, .int .i64 p2)] _ _ _ (by kernel_rfl) ?_
  obtain ⟨x2, hx, h⟩ := bind_some h
  have hcall := code_form_w p1 p2 _ w hx
  refine x_call 51 #[] #[] [.int .i64 p1, .int .i64 p2] _ rfl rfl rfl rfl hcall ?_
  rintro v w3 ⟨rfl, he3⟩
  clear hcall hx
  refine ⟨.inl rfl, ?_⟩
  replace hms := hms.ev he3
  replace hev := hev.ext he3
  refine x_pure 2 [(14, .bool (!x2)), (15, .bool (!x2))] _ _ _ (by kernel_rfl) ?_
  refine x_split 15 (!x2) rfl (fun hb => ?_) (fun hb => ?_)
  · replace h := ite_t hb h
    refine x_pure 3 [(16, undef), (17, undef), (18, .bool true)] _ _ _ (by kernel_rfl) ?_
    refine x_end rfl (k_then ?_)
    refine c_true rfl ?_
    refine c_seq (c_plain ?_)
    refine x_pure 2 [(6, .int .i64 0), (7, .int .i64 2)] _ _ _ (by kernel_rfl) ?_
    refine x_end rfl (k_then ?_)
    refine c_ret ?_
    refine k_then_ret ?_
    refine r_ret (r_vals [.int .i64 0, .int .i64 2] ⟨rfl, rfl, trivial⟩ ?_)
    have hx := some_inj h
    subst hx
    exact ⟨rfl, hev⟩
  replace h := ite_f hb h
  refine x_pure 3 [(16, .int .i64 p0), (17, .bool (decide (p0 < 0))), (18, .bool (decide (p0 < 0)))] _ _ _ (by kernel_rfl) ?_
  refine x_end rfl (k_then ?_)
  refine c_cond (decide (p0 < 0)) rfl (fun hb => ?_) (fun hb => ?_)
  · replace h := ite_t hb h
    refine c_seq (c_plain ?_)
    refine x_pure 2 [(6, .int .i64 0), (7, .int .i64 2)] _ _ _ (by kernel_rfl) ?_
    refine x_end rfl (k_then ?_)
    refine c_norm [(6, .int .i64 0), (7, .int .i64 2)] ⟨rfl, rfl, trivial⟩ (fun J => ?_)
    refine c_ret ?_
    refine k_then_ret ?_
    refine r_ret (r_vals [.int .i64 0, .int .i64 2] ⟨rfl, rfl, trivial⟩ ?_)
    have hx := some_inj h
    subst hx
    exact ⟨rfl, hev⟩
  replace h := ite_f hb h
  refine c_skip ?_
  refine k_then ?_
  refine c_seq ?_
  refine c_seq (c_plain ?_)
  refine x_pure 2 [(19, .int .i64 p0), (20, .bool (decide (p0 ≥ 4096)))] _ _ _ (by kernel_rfl) ?_
  refine x_end rfl (k_then ?_)
  refine c_norm [(0, .int .i64 p0), (1, .int .i64 p1), (2, .int .i64 p2), (20, .bool (decide (p0 ≥ 4096)))] ⟨rfl, rfl, rfl, rfl, trivial⟩ (fun J => ?_)
  refine c_cond (decide (p0 ≥ 4096)) rfl (fun hb => ?_) (fun hb => ?_)
  · replace h := ite_t hb h
    refine c_seq (c_plain ?_)
    refine x_pure 2 [(6, .int .i64 0), (7, .int .i64 15)] _ _ _ (by kernel_rfl) ?_
    refine x_end rfl (k_then ?_)
    refine c_ret ?_
    refine k_then_ret ?_
    refine r_ret (r_vals [.int .i64 0, .int .i64 15] ⟨rfl, rfl, trivial⟩ ?_)
    have hx := some_inj h
    subst hx
    exact ⟨rfl, hev⟩
  replace h := ite_f hb h
  refine c_skip ?_
  refine k_then ?_
  refine c_seq (c_plain ?_)
  refine x_pure 1 [(8, .int .i64 0)] _ _ _ (by kernel_rfl) ?_
  refine x_end rfl (k_then ?_)
  refine c_join (σ := Int) (fun s => match s with | real_s8_j5 => [(1, .int .i64 p1), (2, .int .i64 p2), (8, .int .i64 real_s8_j5)]) (fun s w' => match s with | real_s8_j5 => code_Next_J5 p1 p2 real_s8_j5 = some r ∧ Ev [] w w' ∧ MS w' [[]] ∧ FR w.heap.size []) ?_ ?_
  · refine c_seq (c_plain ?_)
    refine x_pure 1 [(21, .int .i64 p1)] _ _ _ (by kernel_rfl) ?_
    obtain ⟨x6, hx, h⟩ := bind_some h
    have hcall := code_missed_w p1 _ w3 hx
    refine x_call 55 #[] #[] [.int .i64 p1] _ rfl rfl rfl rfl hcall ?_
    rintro v w7 ⟨rfl, he7⟩
    clear hcall hx
    refine ⟨.inl rfl, ?_⟩
    replace hms := hms.ev he7
    replace hev := hev.ext he7
    refine x_pure 1 [(9, .int .i64 x6)] _ _ _ (by kernel_rfl) ?_
    refine x_end rfl (k_then ?_)
    refine c_seq (c_plain ?_)
    refine x_pure 3 [(23, .int .i64 p0), (24, .int .i64 x6), (25, .bool (decide (p0 > x6)))] _ _ _ (by kernel_rfl) ?_
    refine x_end rfl (k_then ?_)
    refine c_cond (decide (p0 > x6)) rfl (fun hb => ?_) (fun hb => ?_)
    · replace h := ite_t hb h
      refine c_plain ?_
      refine x_pure 4 [(26, .int .i64 p0), (27, .int .i64 x6), (28, .int .i64 (IntKind.i64.wrap (p0 - x6))), (29, .int .i64 p1)] _ _ _ (by kernel_rfl) ?_
      refine x_binop (.int .i64 (IntKind.i64.wrap (1 * 2 ^ (min (Int.toNat (p1)) IntKind.i64.bits)))) (.int .i64 1) (.int .i64 p1) rfl rfl rfl rfl (vb_shl (guard_l h)) ?_
      replace h := guard_r h
      refine x_pure 3 [(31, .int .i64 (IntKind.i64.wrap ((IntKind.i64.wrap (p0 - x6)) + (IntKind.i64.wrap (1 * 2 ^ (min (Int.toNat (p1)) IntKind.i64.bits)))))), (32, .int .i64 (IntKind.i64.wrap ((IntKind.i64.wrap ((IntKind.i64.wrap (p0 - x6)) + (IntKind.i64.wrap (1 * 2 ^ (min (Int.toNat (p1)) IntKind.i64.bits))))) - 1))), (33, .int .i64 p1)] _ _ _ (by kernel_rfl) ?_
      refine x_binop (.int .i64 (Int.fdiv (IntKind.i64.wrap ((IntKind.i64.wrap ((IntKind.i64.wrap (p0 - x6)) + (IntKind.i64.wrap (1 * 2 ^ (min (Int.toNat (p1)) IntKind.i64.bits))))) - 1)) (2 ^ (min (Int.toNat (p1)) IntKind.i64.bits)))) (.int .i64 (IntKind.i64.wrap ((IntKind.i64.wrap ((IntKind.i64.wrap (p0 - x6)) + (IntKind.i64.wrap (1 * 2 ^ (min (Int.toNat (p1)) IntKind.i64.bits))))) - 1))) (.int .i64 p1) rfl rfl rfl rfl (vb_shr (guard_l h)) ?_
      replace h := guard_r h
      refine x_pure 1 [(8, .int .i64 (Int.fdiv (IntKind.i64.wrap ((IntKind.i64.wrap ((IntKind.i64.wrap (p0 - x6)) + (IntKind.i64.wrap (1 * 2 ^ (min (Int.toNat (p1)) IntKind.i64.bits))))) - 1)) (2 ^ (min (Int.toNat (p1)) IntKind.i64.bits))))] _ _ _ (by kernel_rfl) ?_
      refine x_end rfl ?_
      exact k_then ⟨Int.fdiv (IntKind.i64.wrap ((IntKind.i64.wrap ((IntKind.i64.wrap (p0 - x6)) + (IntKind.i64.wrap (1 * 2 ^ (min (Int.toNat (p1)) IntKind.i64.bits))))) - 1)) (2 ^ (min (Int.toNat (p1)) IntKind.i64.bits)), ⟨rfl, rfl, rfl, trivial⟩, h, hev, hms, hfr⟩
    replace h := ite_f hb h
    refine c_skip ?_
    exact k_then ⟨0, ⟨rfl, rfl, rfl, trivial⟩, h, hev, hms, hfr⟩
  rintro real_s8_j5 J wj5 ⟨h, hev, hms, hfr⟩
  refine c_seq ?_
  refine c_block ?_
  obtain ⟨d9, hd9, h9⟩ := bind_some h
  obtain ⟨m9, hd9⟩ := loop_some hd9
  refine c_loop (loop_rule hmx (σ := Nat × Int) (fun s => match s with | (_, real_s8_l9) => [(1, .int .i64 p1), (2, .int .i64 p2), (8, .int .i64 real_s8_l9)]) (fun s w' => match s with | (m, real_s8_l9) => loopN (code_Next_L9 p2) m real_s8_l9 = some d9 ∧ Ev [] w w' ∧ MS w' [[]] ∧ FR w.heap.size []) (fun s => s.1) (m9, real_s8_j5) ⟨rfl, rfl, rfl, trivial⟩ ⟨hd9, hev, hms, hfr⟩ ?_)
  rintro ⟨m9, real_s8_l9⟩ J wl9 ⟨hn9, hev, hms, hfr⟩
  rcases m9 with _ | m9
  · exact (loopN_zero hn9).elim
  obtain ⟨t9, h, hn9⟩ := bind_some hn9
  refine c_seq ?_
  refine c_seq (c_plain ?_)
  refine x_pure 1 [(35, .int .i64 real_s8_l9)] _ _ _ (by kernel_rfl) ?_
  obtain ⟨x11, hx, h⟩ := bind_some h
  have hcall := code_ones_w real_s8_l9 _ wl9 hx
  refine x_call 61 #[] #[] [.int .i64 real_s8_l9] _ rfl rfl rfl rfl hcall ?_
  rintro v w12 ⟨rfl, he12⟩
  clear hcall hx
  refine ⟨.inl rfl, ?_⟩
  replace hms := hms.ev he12
  replace hev := hev.ext he12
  refine x_pure 2 [(37, .int .i64 p2), (38, .bool (decide (x11 > p2)))] _ _ _ (by kernel_rfl) ?_
  refine x_end rfl (k_then ?_)
  refine c_norm [(1, .int .i64 p1), (2, .int .i64 p2), (8, .int .i64 real_s8_l9), (38, .bool (decide (x11 > p2)))] ⟨rfl, rfl, rfl, rfl, trivial⟩ (fun J => ?_)
  refine c_cond (decide (x11 > p2)) rfl (fun hb => ?_) (fun hb => ?_)
  · replace h := ite_t hb h
    refine c_skip ?_
    refine k_then ?_
    refine c_block ?_
    refine c_seq (c_plain ?_)
    refine x_pure 7 [(39, .int .i64 real_s8_l9), (40, .int .i64 real_s8_l9), (41, .int .i64 real_s8_l9), (42, .int .i64 (IntKind.i64.wrap (0 - real_s8_l9))), (43, .int .i64 (IntKind.i64.wrap ↑(BitVec.ofInt IntKind.i64.bits real_s8_l9 &&& BitVec.ofInt IntKind.i64.bits (IntKind.i64.wrap (0 - real_s8_l9))).toNat)), (44, .int .i64 (IntKind.i64.wrap (real_s8_l9 + (IntKind.i64.wrap ↑(BitVec.ofInt IntKind.i64.bits real_s8_l9 &&& BitVec.ofInt IntKind.i64.bits (IntKind.i64.wrap (0 - real_s8_l9))).toNat)))), (8, .int .i64 (IntKind.i64.wrap (real_s8_l9 + (IntKind.i64.wrap ↑(BitVec.ofInt IntKind.i64.bits real_s8_l9 &&& BitVec.ofInt IntKind.i64.bits (IntKind.i64.wrap (0 - real_s8_l9))).toNat))))] _ _ _ (by kernel_rfl) ?_
    refine x_end rfl (k_then ?_)
    refine c_seq (c_plain ?_)
    refine x_pure 2 [(45, .int .i64 (IntKind.i64.wrap (real_s8_l9 + (IntKind.i64.wrap ↑(BitVec.ofInt IntKind.i64.bits real_s8_l9 &&& BitVec.ofInt IntKind.i64.bits (IntKind.i64.wrap (0 - real_s8_l9))).toNat)))), (46, .bool (decide ((IntKind.i64.wrap (real_s8_l9 + (IntKind.i64.wrap ↑(BitVec.ofInt IntKind.i64.bits real_s8_l9 &&& BitVec.ofInt IntKind.i64.bits (IntKind.i64.wrap (0 - real_s8_l9))).toNat))) ≥ 4096)))] _ _ _ (by kernel_rfl) ?_
    refine x_end rfl (k_then ?_)
    refine c_cond (decide ((IntKind.i64.wrap (real_s8_l9 + (IntKind.i64.wrap ↑(BitVec.ofInt IntKind.i64.bits real_s8_l9 &&& BitVec.ofInt IntKind.i64.bits (IntKind.i64.wrap (0 - real_s8_l9))).toNat))) ≥ 4096)) rfl (fun hb => ?_) (fun hb => ?_)
    · replace h := ite_t hb h
      refine c_seq (c_plain ?_)
      refine x_pure 2 [(6, .int .i64 0), (7, .int .i64 15)] _ _ _ (by kernel_rfl) ?_
      refine x_end rfl (k_then ?_)
      refine c_ret ?_
      refine k_block_ret ?_
      have hx := some_inj h
      subst hx
      have hy := some_inj hn9
      subst hy
      replace h := h9
      refine k_then_ret ?_
      refine k_block_ret ?_
      refine k_then_ret ?_
      refine r_ret (r_vals [.int .i64 0, .int .i64 15] ⟨rfl, rfl, trivial⟩ ?_)
      have hx := some_inj h
      subst hx
      exact ⟨rfl, hev⟩
    replace h := ite_f hb h
    refine c_skip ?_
    refine k_block ?_
    have hx := some_inj h
    subst hx
    exact k_then ⟨(m9, IntKind.i64.wrap (real_s8_l9 + (IntKind.i64.wrap ↑(BitVec.ofInt IntKind.i64.bits real_s8_l9 &&& BitVec.ofInt IntKind.i64.bits (IntKind.i64.wrap (0 - real_s8_l9))).toNat))), ⟨rfl, rfl, rfl, trivial⟩, ⟨hn9, hev, hms, hfr⟩, Nat.lt_succ_self _⟩
  replace h := ite_f hb h
  refine c_exit ?_
  refine k_then_exit ?_
  have hx := some_inj h
  subst hx
  have hy := some_inj hn9
  subst hy
  replace h := h9
  refine k_then_exit ?_
  refine k_block_in ?_
  refine k_then ?_
  refine c_norm [(1, .int .i64 p1), (8, .int .i64 real_s8_l9)] ⟨rfl, rfl, trivial⟩ (fun J => ?_)
  refine c_seq ?_
  refine c_seq ?_
  refine c_drawn [] [(0, false), (1, false), (2, false), (3, false), (4, false), (5, false), (6, false)] _ (by kernel_rfl) rfl ?_
  replace hms := hms.ev (Ev.drew w12)
  replace hev := hev.ext (Ev.drew w12)
  refine x_pure 2 [(47, .int .i64 real_s8_l9), (48, .int .i64 p1)] _ _ _ (by kernel_rfl) ?_
  refine x_binop (.int .i64 (IntKind.i64.wrap (real_s8_l9 * 2 ^ (min (Int.toNat (p1)) IntKind.i64.bits)))) (.int .i64 real_s8_l9) (.int .i64 p1) rfl rfl rfl rfl (vb_shl (guard_l h)) ?_
  replace h := guard_r h
  refine x_pure 1 [(50, .int .i64 p1)] _ _ _ (by kernel_rfl) ?_
  obtain ⟨x13, hx, h⟩ := bind_some h
  have hcall := code_missed_w p1 _ (w12).drew hx
  refine x_call 55 #[] #[] [.int .i64 p1] _ rfl rfl rfl rfl hcall ?_
  rintro v w14 ⟨rfl, he14⟩
  clear hcall hx
  refine ⟨.inr he14, ?_⟩
  replace hms := hms.ev he14
  replace hev := hev.ext he14
  refine x_pure 2 [(52, .int .i64 (IntKind.i64.wrap ↑(BitVec.ofInt IntKind.i64.bits (IntKind.i64.wrap (real_s8_l9 * 2 ^ (min (Int.toNat (p1)) IntKind.i64.bits))) ||| BitVec.ofInt IntKind.i64.bits x13).toNat)), (10, .int .i64 (IntKind.i64.wrap ↑(BitVec.ofInt IntKind.i64.bits (IntKind.i64.wrap (real_s8_l9 * 2 ^ (min (Int.toNat (p1)) IntKind.i64.bits))) ||| BitVec.ofInt IntKind.i64.bits x13).toNat))] _ _ _ (by kernel_rfl) ?_
  refine x_end rfl (k_then ?_)
  refine c_seq (c_plain ?_)
  refine x_pure 2 [(53, .int .i64 (IntKind.i64.wrap ↑(BitVec.ofInt IntKind.i64.bits (IntKind.i64.wrap (real_s8_l9 * 2 ^ (min (Int.toNat (p1)) IntKind.i64.bits))) ||| BitVec.ofInt IntKind.i64.bits x13).toNat)), (54, .bool (decide ((IntKind.i64.wrap ↑(BitVec.ofInt IntKind.i64.bits (IntKind.i64.wrap (real_s8_l9 * 2 ^ (min (Int.toNat (p1)) IntKind.i64.bits))) ||| BitVec.ofInt IntKind.i64.bits x13).toNat) < 4096)))] _ _ _ (by kernel_rfl) ?_
  refine x_end rfl (k_then ?_)
  refine c_cond (decide ((IntKind.i64.wrap ↑(BitVec.ofInt IntKind.i64.bits (IntKind.i64.wrap (real_s8_l9 * 2 ^ (min (Int.toNat (p1)) IntKind.i64.bits))) ||| BitVec.ofInt IntKind.i64.bits x13).toNat) < 4096)) rfl (fun hb => ?_) (fun hb => ?_)
  · replace h := ite_t hb h
    refine c_seq (c_plain ?_)
    refine x_pure 3 [(55, .int .i64 (IntKind.i64.wrap ↑(BitVec.ofInt IntKind.i64.bits (IntKind.i64.wrap (real_s8_l9 * 2 ^ (min (Int.toNat (p1)) IntKind.i64.bits))) ||| BitVec.ofInt IntKind.i64.bits x13).toNat)), (6, .int .i64 (IntKind.i64.wrap ↑(BitVec.ofInt IntKind.i64.bits (IntKind.i64.wrap (real_s8_l9 * 2 ^ (min (Int.toNat (p1)) IntKind.i64.bits))) ||| BitVec.ofInt IntKind.i64.bits x13).toNat)), (7, .int .i64 0)] _ _ _ (by kernel_rfl) ?_
    refine x_end rfl (k_then ?_)
    refine c_ret ?_
    refine k_then_ret ?_
    refine r_ret (r_vals [.int .i64 (IntKind.i64.wrap ↑(BitVec.ofInt IntKind.i64.bits (IntKind.i64.wrap (real_s8_l9 * 2 ^ (min (Int.toNat (p1)) IntKind.i64.bits))) ||| BitVec.ofInt IntKind.i64.bits x13).toNat), .int .i64 0] ⟨rfl, rfl, trivial⟩ ?_)
    have hx := some_inj h
    subst hx
    exact ⟨rfl, hev⟩
  replace h := ite_f hb h
  refine c_skip ?_
  refine k_then ?_
  refine c_seq (c_plain ?_)
  refine x_pure 2 [(6, .int .i64 0), (7, .int .i64 15)] _ _ _ (by kernel_rfl) ?_
  refine x_end rfl (k_then ?_)
  refine c_ret ?_
  refine r_ret (r_vals [.int .i64 0, .int .i64 15] ⟨rfl, rfl, trivial⟩ ?_)
  have hx := some_inj h
  subst hx
  exact ⟨rfl, hev⟩
def code_Steps_L4 (s : Int × Int) : Option (Step (Int × Int) Int) :=
match s with
| (k_s0_l4, n_s4_l4) =>
(if (decide (k_s0_l4 > 0)) = true then
some (.next (Int.fdiv k_s0_l4 (2 ^ (min (Int.toNat (1)) IntKind.i64.bits)), IntKind.i64.wrap (n_s4_l4 + 1)))
else
some (.done n_s4_l4))

def code_Steps (p0 : Int) : Option (Int × Int) :=
((code_in p0 0 4095).bind fun x2 =>
(if (!x2) = true then
some (0, 2)
else
((loop code_Steps_L4 (p0, 0)).bind fun d => match d with
| n_s4_x4 => some (n_s4_x4, 0))))

theorem code_Steps_w (p0 : Int) (r : Int × Int) (w : World) (h : code_Steps p0 = some r) : CallVC Try.prog 39 [.int .i64 p0] w fun v w' => v = .tuple #[.int .i64 r.1, .int .i64 r.2] ∧ Ev [] w w' := by
  refine calls_vc hmx Try.func39 (by kernel_rfl) rfl (rs := [.tmp 2, .tmp 3]) rfl (by kernel_rfl) (args := [.int .i64 p0]) rfl ?_
  have hev : Ev [] w w := Ev.refl _ _
  have hms : MS w [[]] := ⟨List.pairwise_singleton _ _, fun l hl b hb => by simp only [List.mem_singleton] at hl; subst hl; cases hb⟩
  have hfr : FR w.heap.size [] := FR.nil _
  refine c_seq (c_plain ?_)
  refine x_pure 2 [(2, .int .i64 0), (3, .int .i64 0)] _ _ _ (by kernel_rfl) ?_
  refine x_end rfl (k_then ?_)
  refine c_seq ?_
  refine c_seq (c_plain ?_)
  refine x_pure 1 [(5, .int .i64 p0)] _ _ _ (by kernel_rfl) ?_
  obtain ⟨x2, hx, h⟩ := bind_some h
  have hcall := code_in_w p0 0 4095 _ w hx
  refine x_call 52 #[] #[] [.int .i64 p0, .int .i64 0, .int .i64 4095] _ rfl rfl rfl rfl hcall ?_
  rintro v w3 ⟨rfl, he3⟩
  clear hcall hx
  refine ⟨.inl rfl, ?_⟩
  replace hms := hms.ev he3
  replace hev := hev.ext he3
  refine x_pure 1 [(7, .bool (!x2))] _ _ _ (by kernel_rfl) ?_
  refine x_end rfl (k_then ?_)
  refine c_cond (!x2) rfl (fun hb => ?_) (fun hb => ?_)
  · replace h := ite_t hb h
    refine c_seq (c_plain ?_)
    refine x_pure 2 [(2, .int .i64 0), (3, .int .i64 2)] _ _ _ (by kernel_rfl) ?_
    refine x_end rfl (k_then ?_)
    refine c_ret ?_
    refine k_then_ret ?_
    refine r_ret (r_vals [.int .i64 0, .int .i64 2] ⟨rfl, rfl, trivial⟩ ?_)
    have hx := some_inj h
    subst hx
    exact ⟨rfl, hev⟩
  replace h := ite_f hb h
  refine c_skip ?_
  refine k_then ?_
  refine c_seq (c_plain ?_)
  refine x_pure 1 [(4, .int .i64 0)] _ _ _ (by kernel_rfl) ?_
  refine x_end rfl (k_then ?_)
  refine c_seq ?_
  refine c_block ?_
  obtain ⟨d4, hd4, h4⟩ := bind_some h
  obtain ⟨m4, hd4⟩ := loop_some hd4
  refine c_loop (loop_rule hmx (σ := Nat × Int × Int) (fun s => match s with | (_, k_s0_l4, n_s4_l4) => [(0, .int .i64 k_s0_l4), (4, .int .i64 n_s4_l4)]) (fun s w' => match s with | (m, k_s0_l4, n_s4_l4) => loopN code_Steps_L4 m (k_s0_l4, n_s4_l4) = some d4 ∧ Ev [] w w' ∧ MS w' [[]] ∧ FR w.heap.size []) (fun s => s.1) (m4, p0, 0) ⟨rfl, rfl, trivial⟩ ⟨hd4, hev, hms, hfr⟩ ?_)
  rintro ⟨m4, k_s0_l4, n_s4_l4⟩ J wl4 ⟨hn4, hev, hms, hfr⟩
  rcases m4 with _ | m4
  · exact (loopN_zero hn4).elim
  obtain ⟨t4, h, hn4⟩ := bind_some hn4
  refine c_seq ?_
  refine c_seq (c_plain ?_)
  refine x_pure 2 [(8, .int .i64 k_s0_l4), (9, .bool (decide (k_s0_l4 > 0)))] _ _ _ (by kernel_rfl) ?_
  refine x_end rfl (k_then ?_)
  refine c_norm [(0, .int .i64 k_s0_l4), (4, .int .i64 n_s4_l4), (9, .bool (decide (k_s0_l4 > 0)))] ⟨rfl, rfl, rfl, trivial⟩ (fun J => ?_)
  refine c_cond (decide (k_s0_l4 > 0)) rfl (fun hb => ?_) (fun hb => ?_)
  · replace h := ite_t hb h
    refine c_skip ?_
    refine k_then ?_
    refine c_seq ?_
    refine c_block ?_
    refine c_plain ?_
    refine x_pure 3 [(12, .int .i64 n_s4_l4), (13, .int .i64 (IntKind.i64.wrap (n_s4_l4 + 1))), (4, .int .i64 (IntKind.i64.wrap (n_s4_l4 + 1)))] _ _ _ (by kernel_rfl) ?_
    refine x_end rfl ?_
    refine k_block ?_
    refine k_then ?_
    refine c_plain ?_
    refine x_pure 3 [(10, .int .i64 k_s0_l4), (11, .int .i64 (Int.fdiv k_s0_l4 (2 ^ (min (Int.toNat (1)) IntKind.i64.bits)))), (0, .int .i64 (Int.fdiv k_s0_l4 (2 ^ (min (Int.toNat (1)) IntKind.i64.bits))))] _ _ _ (by kernel_rfl) ?_
    refine x_end rfl ?_
    have hx := some_inj h
    subst hx
    exact k_then ⟨(m4, Int.fdiv k_s0_l4 (2 ^ (min (Int.toNat (1)) IntKind.i64.bits)), IntKind.i64.wrap (n_s4_l4 + 1)), ⟨rfl, rfl, trivial⟩, ⟨hn4, hev, hms, hfr⟩, Nat.lt_succ_self _⟩
  replace h := ite_f hb h
  refine c_exit ?_
  refine k_then_exit ?_
  have hx := some_inj h
  subst hx
  have hy := some_inj hn4
  subst hy
  replace h := h4
  refine k_then_exit ?_
  refine k_block_in ?_
  refine k_then ?_
  refine c_norm [(4, .int .i64 n_s4_l4)] ⟨rfl, trivial⟩ (fun J => ?_)
  refine c_seq (c_plain ?_)
  refine x_pure 3 [(14, .int .i64 n_s4_l4), (2, .int .i64 n_s4_l4), (3, .int .i64 0)] _ _ _ (by kernel_rfl) ?_
  refine x_end rfl (k_then ?_)
  refine c_ret ?_
  refine r_ret (r_vals [.int .i64 n_s4_l4, .int .i64 0] ⟨rfl, rfl, trivial⟩ ?_)
  have hx := some_inj h
  subst hx
  exact ⟨rfl, hev⟩
def code_binomial_L1 (p0 : Int) (p1 : Int) (s : Int × Int) : Option (Step (Int × Int) Int) :=
match s with
| (out_s5_l1, i_s6_l1) =>
(if (decide (i_s6_l1 ≤ p1)) = true then
(if i_s6_l1 ≠ 0 then
some (.next (IntKind.i64.wrap (Int.tdiv (IntKind.i64.wrap (out_s5_l1 * (IntKind.i64.wrap ((IntKind.i64.wrap (p0 - i_s6_l1)) + 1)))) i_s6_l1), IntKind.i64.wrap (i_s6_l1 + 1)))
else none)
else
some (.done out_s5_l1))

def code_binomial (p0 : Int) (p1 : Int) : Option Int :=
((loop (code_binomial_L1 p0 p1) (1, 1)).bind fun d => match d with
| out_s5_x1 => some out_s5_x1)

theorem code_binomial_w (p0 : Int) (p1 : Int) (r : Int) (w : World) (h : code_binomial p0 p1 = some r) : CallVC Try.prog 62 [.int .i64 p0, .int .i64 p1] w fun v w' => v = .int .i64 r ∧ Ev [] w w' := by
  refine calls_vc hmx Try.func62 (by kernel_rfl) rfl (rs := [.tmp 4]) rfl (by kernel_rfl) (args := [.int .i64 p0, .int .i64 p1]) rfl ?_
  have hev : Ev [] w w := Ev.refl _ _
  have hms : MS w [[]] := ⟨List.pairwise_singleton _ _, fun l hl b hb => by simp only [List.mem_singleton] at hl; subst hl; cases hb⟩
  have hfr : FR w.heap.size [] := FR.nil _
  refine c_seq (c_plain ?_)
  refine x_pure 1 [(4, .int .i64 0)] _ _ _ (by kernel_rfl) ?_
  refine x_end rfl (k_then ?_)
  refine c_seq (c_plain ?_)
  refine x_pure 1 [(5, .int .i64 1)] _ _ _ (by kernel_rfl) ?_
  refine x_end rfl (k_then ?_)
  refine c_seq ?_
  refine c_seq (c_plain ?_)
  refine x_pure 1 [(6, .int .i64 1)] _ _ _ (by kernel_rfl) ?_
  refine x_end rfl (k_then ?_)
  refine c_block ?_
  obtain ⟨d1, hd1, h1⟩ := bind_some h
  obtain ⟨m1, hd1⟩ := loop_some hd1
  refine c_loop (loop_rule hmx (σ := Nat × Int × Int) (fun s => match s with | (_, out_s5_l1, i_s6_l1) => [(0, .int .i64 p0), (1, .int .i64 p1), (5, .int .i64 out_s5_l1), (6, .int .i64 i_s6_l1)]) (fun s w' => match s with | (m, out_s5_l1, i_s6_l1) => loopN (code_binomial_L1 p0 p1) m (out_s5_l1, i_s6_l1) = some d1 ∧ Ev [] w w' ∧ MS w' [[]] ∧ FR w.heap.size []) (fun s => s.1) (m1, 1, 1) ⟨rfl, rfl, rfl, rfl, trivial⟩ ⟨hd1, hev, hms, hfr⟩ ?_)
  rintro ⟨m1, out_s5_l1, i_s6_l1⟩ J wl1 ⟨hn1, hev, hms, hfr⟩
  rcases m1 with _ | m1
  · exact (loopN_zero hn1).elim
  obtain ⟨t1, h, hn1⟩ := bind_some hn1
  refine c_seq ?_
  refine c_seq (c_plain ?_)
  refine x_pure 3 [(7, .int .i64 i_s6_l1), (8, .int .i64 p1), (9, .bool (decide (i_s6_l1 ≤ p1)))] _ _ _ (by kernel_rfl) ?_
  refine x_end rfl (k_then ?_)
  refine c_norm [(0, .int .i64 p0), (1, .int .i64 p1), (5, .int .i64 out_s5_l1), (6, .int .i64 i_s6_l1), (9, .bool (decide (i_s6_l1 ≤ p1)))] ⟨rfl, rfl, rfl, rfl, rfl, trivial⟩ (fun J => ?_)
  refine c_cond (decide (i_s6_l1 ≤ p1)) rfl (fun hb => ?_) (fun hb => ?_)
  · replace h := ite_t hb h
    refine c_skip ?_
    refine k_then ?_
    refine c_seq ?_
    refine c_block ?_
    refine c_plain ?_
    refine x_pure 7 [(12, .int .i64 out_s5_l1), (13, .int .i64 p0), (14, .int .i64 i_s6_l1), (15, .int .i64 (IntKind.i64.wrap (p0 - i_s6_l1))), (16, .int .i64 (IntKind.i64.wrap ((IntKind.i64.wrap (p0 - i_s6_l1)) + 1))), (17, .int .i64 (IntKind.i64.wrap (out_s5_l1 * (IntKind.i64.wrap ((IntKind.i64.wrap (p0 - i_s6_l1)) + 1))))), (18, .int .i64 i_s6_l1)] _ _ _ (by kernel_rfl) ?_
    refine x_binop (.int .i64 (IntKind.i64.wrap (Int.tdiv (IntKind.i64.wrap (out_s5_l1 * (IntKind.i64.wrap ((IntKind.i64.wrap (p0 - i_s6_l1)) + 1)))) i_s6_l1))) (.int .i64 (IntKind.i64.wrap (out_s5_l1 * (IntKind.i64.wrap ((IntKind.i64.wrap (p0 - i_s6_l1)) + 1))))) (.int .i64 i_s6_l1) rfl rfl rfl rfl (vb_quo (guard_l h)) ?_
    replace h := guard_r h
    refine x_pure 1 [(5, .int .i64 (IntKind.i64.wrap (Int.tdiv (IntKind.i64.wrap (out_s5_l1 * (IntKind.i64.wrap ((IntKind.i64.wrap (p0 - i_s6_l1)) + 1)))) i_s6_l1)))] _ _ _ (by kernel_rfl) ?_
    refine x_end rfl ?_
    refine k_block ?_
    refine k_then ?_
    refine c_plain ?_
    refine x_pure 3 [(10, .int .i64 i_s6_l1), (11, .int .i64 (IntKind.i64.wrap (i_s6_l1 + 1))), (6, .int .i64 (IntKind.i64.wrap (i_s6_l1 + 1)))] _ _ _ (by kernel_rfl) ?_
    refine x_end rfl ?_
    have hx := some_inj h
    subst hx
    exact k_then ⟨(m1, IntKind.i64.wrap (Int.tdiv (IntKind.i64.wrap (out_s5_l1 * (IntKind.i64.wrap ((IntKind.i64.wrap (p0 - i_s6_l1)) + 1)))) i_s6_l1), IntKind.i64.wrap (i_s6_l1 + 1)), ⟨rfl, rfl, rfl, rfl, trivial⟩, ⟨hn1, hev, hms, hfr⟩, Nat.lt_succ_self _⟩
  replace h := ite_f hb h
  refine c_exit ?_
  refine k_then_exit ?_
  have hx := some_inj h
  subst hx
  have hy := some_inj hn1
  subst hy
  replace h := h1
  refine k_then_exit ?_
  refine k_block_in ?_
  refine k_then ?_
  refine c_norm [(5, .int .i64 out_s5_l1)] ⟨rfl, trivial⟩ (fun J => ?_)
  refine c_seq (c_plain ?_)
  refine x_pure 2 [(20, .int .i64 out_s5_l1), (4, .int .i64 out_s5_l1)] _ _ _ (by kernel_rfl) ?_
  refine x_end rfl (k_then ?_)
  refine c_ret ?_
  refine r_ret (r_vals [.int .i64 out_s5_l1] ⟨rfl, trivial⟩ ?_)
  have hx := some_inj h
  subst hx
  exact ⟨rfl, hev⟩
def code_count_L1 (p0 : Int) (p1 : Int) (p2 : Int) (s : Int × Int) : Option (Step (Int × Int) Int) :=
match s with
| (n_s7_l1, ones_s8_l1) =>
(if (decide (ones_s8_l1 ≤ (if (IntKind.i64.wrap (p0 - p1)) < p2 then (IntKind.i64.wrap (p0 - p1)) else p2))) = true then
((code_binomial (IntKind.i64.wrap (p0 - p1)) ones_s8_l1).bind fun x3 =>
some (.next (IntKind.i64.wrap (n_s7_l1 + x3), IntKind.i64.wrap (ones_s8_l1 + 1))))
else
some (.done n_s7_l1))

def code_count (p0 : Int) (p1 : Int) (p2 : Int) : Option Int :=
((loop (code_count_L1 p0 p1 p2) (0, 0)).bind fun d => match d with
| n_s7_x1 => some n_s7_x1)

theorem code_count_w (p0 : Int) (p1 : Int) (p2 : Int) (r : Int) (w : World) (h : code_count p0 p1 p2 = some r) : CallVC Try.prog 53 [.int .i64 p0, .int .i64 p1, .int .i64 p2] w fun v w' => v = .int .i64 r ∧ Ev [] w w' := by
  refine calls_vc hmx Try.func53 (by kernel_rfl) rfl (rs := [.tmp 6]) rfl (by kernel_rfl) (args := [.int .i64 p0, .int .i64 p1, .int .i64 p2]) rfl ?_
  have hev : Ev [] w w := Ev.refl _ _
  have hms : MS w [[]] := ⟨List.pairwise_singleton _ _, fun l hl b hb => by simp only [List.mem_singleton] at hl; subst hl; cases hb⟩
  have hfr : FR w.heap.size [] := FR.nil _
  refine c_seq (c_plain ?_)
  refine x_pure 1 [(6, .int .i64 0)] _ _ _ (by kernel_rfl) ?_
  refine x_end rfl (k_then ?_)
  refine c_seq (c_plain ?_)
  refine x_pure 1 [(7, .int .i64 0)] _ _ _ (by kernel_rfl) ?_
  refine x_end rfl (k_then ?_)
  refine c_seq ?_
  refine c_seq (c_plain ?_)
  refine x_pure 1 [(8, .int .i64 0)] _ _ _ (by kernel_rfl) ?_
  refine x_end rfl (k_then ?_)
  refine c_block ?_
  obtain ⟨d1, hd1, h1⟩ := bind_some h
  obtain ⟨m1, hd1⟩ := loop_some hd1
  refine c_loop (loop_rule hmx (σ := Nat × Int × Int) (fun s => match s with | (_, n_s7_l1, ones_s8_l1) => [(0, .int .i64 p0), (1, .int .i64 p1), (2, .int .i64 p2), (7, .int .i64 n_s7_l1), (8, .int .i64 ones_s8_l1)]) (fun s w' => match s with | (m, n_s7_l1, ones_s8_l1) => loopN (code_count_L1 p0 p1 p2) m (n_s7_l1, ones_s8_l1) = some d1 ∧ Ev [] w w' ∧ MS w' [[]] ∧ FR w.heap.size []) (fun s => s.1) (m1, 0, 0) ⟨rfl, rfl, rfl, rfl, rfl, trivial⟩ ⟨hd1, hev, hms, hfr⟩ ?_)
  rintro ⟨m1, n_s7_l1, ones_s8_l1⟩ J wl1 ⟨hn1, hev, hms, hfr⟩
  rcases m1 with _ | m1
  · exact (loopN_zero hn1).elim
  obtain ⟨t1, h, hn1⟩ := bind_some hn1
  refine c_seq ?_
  refine c_seq (c_plain ?_)
  refine x_pure 5 [(9, .int .i64 ones_s8_l1), (10, .int .i64 p2), (11, .int .i64 p0), (12, .int .i64 p1), (13, .int .i64 (IntKind.i64.wrap (p0 - p1)))] _ _ _ (by kernel_rfl) ?_
  refine x_min (vs := [.int .i64 p2, .int .i64 (IntKind.i64.wrap (p0 - p1))]) (.int .i64 (if (IntKind.i64.wrap (p0 - p1)) < p2 then (IntKind.i64.wrap (p0 - p1)) else p2)) rfl rfl rfl (fun _ _ => rfl) ?_
  refine x_pure 1 [(15, .bool (decide (ones_s8_l1 ≤ (if (IntKind.i64.wrap (p0 - p1)) < p2 then (IntKind.i64.wrap (p0 - p1)) else p2))))] _ _ _ (by kernel_rfl) ?_
  refine x_end rfl (k_then ?_)
  refine c_norm [(0, .int .i64 p0), (1, .int .i64 p1), (2, .int .i64 p2), (7, .int .i64 n_s7_l1), (8, .int .i64 ones_s8_l1), (15, .bool (decide (ones_s8_l1 ≤ (if (IntKind.i64.wrap (p0 - p1)) < p2 then (IntKind.i64.wrap (p0 - p1)) else p2))))] ⟨rfl, rfl, rfl, rfl, rfl, rfl, trivial⟩ (fun J => ?_)
  refine c_cond (decide (ones_s8_l1 ≤ (if (IntKind.i64.wrap (p0 - p1)) < p2 then (IntKind.i64.wrap (p0 - p1)) else p2))) rfl (fun hb => ?_) (fun hb => ?_)
  · replace h := ite_t hb h
    refine c_skip ?_
    refine k_then ?_
    refine c_seq ?_
    refine c_block ?_
    refine c_plain ?_
    refine x_pure 5 [(18, .int .i64 n_s7_l1), (19, .int .i64 p0), (20, .int .i64 p1), (21, .int .i64 (IntKind.i64.wrap (p0 - p1))), (22, .int .i64 ones_s8_l1)] _ _ _ (by kernel_rfl) ?_
    obtain ⟨x3, hx, h⟩ := bind_some h
    have hcall := code_binomial_w (IntKind.i64.wrap (p0 - p1)) ones_s8_l1 _ wl1 hx
    refine x_call 62 #[] #[] [.int .i64 (IntKind.i64.wrap (p0 - p1)), .int .i64 ones_s8_l1] _ rfl rfl rfl rfl hcall ?_
    rintro v w4 ⟨rfl, he4⟩
    clear hcall hx
    refine ⟨.inl rfl, ?_⟩
    replace hms := hms.ev he4
    replace hev := hev.ext he4
    refine x_pure 2 [(24, .int .i64 (IntKind.i64.wrap (n_s7_l1 + x3))), (7, .int .i64 (IntKind.i64.wrap (n_s7_l1 + x3)))] _ _ _ (by kernel_rfl) ?_
    refine x_end rfl ?_
    refine k_block ?_
    refine k_then ?_
    refine c_plain ?_
    refine x_pure 3 [(16, .int .i64 ones_s8_l1), (17, .int .i64 (IntKind.i64.wrap (ones_s8_l1 + 1))), (8, .int .i64 (IntKind.i64.wrap (ones_s8_l1 + 1)))] _ _ _ (by kernel_rfl) ?_
    refine x_end rfl ?_
    have hx := some_inj h
    subst hx
    exact k_then ⟨(m1, IntKind.i64.wrap (n_s7_l1 + x3), IntKind.i64.wrap (ones_s8_l1 + 1)), ⟨rfl, rfl, rfl, rfl, rfl, trivial⟩, ⟨hn1, hev, hms, hfr⟩, Nat.lt_succ_self _⟩
  replace h := ite_f hb h
  refine c_exit ?_
  refine k_then_exit ?_
  have hx := some_inj h
  subst hx
  have hy := some_inj hn1
  subst hy
  replace h := h1
  refine k_then_exit ?_
  refine k_block_in ?_
  refine k_then ?_
  refine c_norm [(7, .int .i64 n_s7_l1)] ⟨rfl, trivial⟩ (fun J => ?_)
  refine c_seq (c_plain ?_)
  refine x_pure 2 [(25, .int .i64 n_s7_l1), (6, .int .i64 n_s7_l1)] _ _ _ (by kernel_rfl) ?_
  refine x_end rfl (k_then ?_)
  refine c_ret ?_
  refine r_ret (r_vals [.int .i64 n_s7_l1] ⟨rfl, trivial⟩ ?_)
  have hx := some_inj h
  subst hx
  exact ⟨rfl, hev⟩
def code_Count (p0 : Int) (p1 : Int) (p2 : Int) : Option (Int × Int) :=
((code_form p1 p2).bind fun x2 =>
(if (!x2) = true then
some (0, 2)
else
((code_in p0 0 12).bind fun x4 =>
(if (!x4) = true then
some (0, 2)
else
((code_count p0 p1 p2).bind fun x6 =>
some (x6, 0))))))

theorem code_Count_w (p0 : Int) (p1 : Int) (p2 : Int) (r : Int × Int) (w : World) (h : code_Count p0 p1 p2 = some r) : CallVC Try.prog 33 [.int .i64 p0, .int .i64 p1, .int .i64 p2] w fun v w' => v = .tuple #[.int .i64 r.1, .int .i64 r.2] ∧ Ev [] w w' := by
  refine calls_vc hmx Try.func33 (by kernel_rfl) rfl (rs := [.tmp 6, .tmp 7]) rfl (by kernel_rfl) (args := [.int .i64 p0, .int .i64 p1, .int .i64 p2]) rfl ?_
  have hev : Ev [] w w := Ev.refl _ _
  have hms : MS w [[]] := ⟨List.pairwise_singleton _ _, fun l hl b hb => by simp only [List.mem_singleton] at hl; subst hl; cases hb⟩
  have hfr : FR w.heap.size [] := FR.nil _
  refine c_seq (c_plain ?_)
  refine x_pure 2 [(6, .int .i64 0), (7, .int .i64 0)] _ _ _ (by kernel_rfl) ?_
  refine x_end rfl (k_then ?_)
  refine c_seq ?_
  refine c_seq (c_plain ?_)
  refine x_pure 2 [(8, .int .i64 p1), (9, .int .i64 p2)] _ _ _ (by kernel_rfl) ?_
  obtain ⟨x2, hx, h⟩ := bind_some h
  have hcall := code_form_w p1 p2 _ w hx
  refine x_call 51 #[] #[] [.int .i64 p1, .int .i64 p2] _ rfl rfl rfl rfl hcall ?_
  rintro v w3 ⟨rfl, he3⟩
  clear hcall hx
  refine ⟨.inl rfl, ?_⟩
  replace hms := hms.ev he3
  replace hev := hev.ext he3
  refine x_pure 2 [(11, .bool (!x2)), (12, .bool (!x2))] _ _ _ (by kernel_rfl) ?_
  refine x_split 12 (!x2) rfl (fun hb => ?_) (fun hb => ?_)
  · replace h := ite_t hb h
    refine x_pure 4 [(13, undef), (14, undef), (15, undef), (16, .bool true)] _ _ _ (by kernel_rfl) ?_
    refine x_end rfl (k_then ?_)
    refine c_true rfl ?_
    refine c_seq (c_plain ?_)
    refine x_pure 2 [(6, .int .i64 0), (7, .int .i64 2)] _ _ _ (by kernel_rfl) ?_
    refine x_end rfl (k_then ?_)
    refine c_norm [(6, .int .i64 0), (7, .int .i64 2)] ⟨rfl, rfl, trivial⟩ (fun J => ?_)
    refine c_ret ?_
    refine k_then_ret ?_
    refine r_ret (r_vals [.int .i64 0, .int .i64 2] ⟨rfl, rfl, trivial⟩ ?_)
    have hx := some_inj h
    subst hx
    exact ⟨rfl, hev⟩
  replace h := ite_f hb h
  refine x_pure 1 [(13, .int .i64 p0)] _ _ _ (by kernel_rfl) ?_
  obtain ⟨x4, hx, h⟩ := bind_some h
  have hcall := code_in_w p0 0 12 _ w3 hx
  refine x_call 52 #[] #[] [.int .i64 p0, .int .i64 0, .int .i64 12] _ rfl rfl rfl rfl hcall ?_
  rintro v w5 ⟨rfl, he5⟩
  clear hcall hx
  refine ⟨.inl rfl, ?_⟩
  replace hms := hms.ev he5
  replace hev := hev.ext he5
  refine x_pure 2 [(15, .bool (!x4)), (16, .bool (!x4))] _ _ _ (by kernel_rfl) ?_
  refine x_end rfl (k_then ?_)
  refine c_cond (!x4) rfl (fun hb => ?_) (fun hb => ?_)
  · replace h := ite_t hb h
    refine c_seq (c_plain ?_)
    refine x_pure 2 [(6, .int .i64 0), (7, .int .i64 2)] _ _ _ (by kernel_rfl) ?_
    refine x_end rfl (k_then ?_)
    refine c_norm [(6, .int .i64 0), (7, .int .i64 2)] ⟨rfl, rfl, trivial⟩ (fun J => ?_)
    refine c_ret ?_
    refine k_then_ret ?_
    refine r_ret (r_vals [.int .i64 0, .int .i64 2] ⟨rfl, rfl, trivial⟩ ?_)
    have hx := some_inj h
    subst hx
    exact ⟨rfl, hev⟩
  replace h := ite_f hb h
  refine c_skip ?_
  refine k_then ?_
  refine c_seq (c_plain ?_)
  refine x_pure 3 [(17, .int .i64 p0), (18, .int .i64 p1), (19, .int .i64 p2)] _ _ _ (by kernel_rfl) ?_
  obtain ⟨x6, hx, h⟩ := bind_some h
  have hcall := code_count_w p0 p1 p2 _ w5 hx
  refine x_call 53 #[] #[] [.int .i64 p0, .int .i64 p1, .int .i64 p2] _ rfl rfl rfl rfl hcall ?_
  rintro v w7 ⟨rfl, he7⟩
  clear hcall hx
  refine ⟨.inl rfl, ?_⟩
  replace hms := hms.ev he7
  replace hev := hev.ext he7
  refine x_pure 2 [(6, .int .i64 x6), (7, .int .i64 0)] _ _ _ (by kernel_rfl) ?_
  refine x_end rfl (k_then ?_)
  refine c_norm [(6, .int .i64 x6), (7, .int .i64 0)] ⟨rfl, rfl, trivial⟩ (fun J => ?_)
  refine c_ret ?_
  refine r_ret (r_vals [.int .i64 x6, .int .i64 0] ⟨rfl, rfl, trivial⟩ ?_)
  have hx := some_inj h
  subst hx
  exact ⟨rfl, hev⟩
def code_Nth_L9 (p1 : Int) (s : Int × Int × Int × Int) : Option (Step (Int × Int × Int × Int) Int) :=
match s with
| (i_s0_l9, weight_s2_l9, k_s8_l9, bit_s9_l9) =>
(if (decide (bit_s9_l9 ≥ p1)) = true then
((code_count bit_s9_l9 p1 weight_s2_l9).bind fun x11 =>
(if (decide (i_s0_l9 ≥ x11)) = true then
(if 0 ≤ bit_s9_l9 then
some (.next (IntKind.i64.wrap (i_s0_l9 - x11), IntKind.i64.wrap (weight_s2_l9 - 1), IntKind.i64.wrap ↑(BitVec.ofInt IntKind.i64.bits k_s8_l9 ||| BitVec.ofInt IntKind.i64.bits (IntKind.i64.wrap (1 * 2 ^ (min (Int.toNat (bit_s9_l9)) IntKind.i64.bits)))).toNat, IntKind.i64.wrap (bit_s9_l9 - 1)))
else none)
else
some (.next (i_s0_l9, weight_s2_l9, k_s8_l9, IntKind.i64.wrap (bit_s9_l9 - 1)))))
else
some (.done k_s8_l9))

def code_Nth (p0 : Int) (p1 : Int) (p2 : Int) : Option (Int × Int) :=
((code_form p1 p2).bind fun x2 =>
(if (!x2) = true then
some (0, 2)
else
(if (decide (p0 < 0)) = true then
some (0, 2)
else
((code_count 12 p1 p2).bind fun x5 =>
(if (decide (p0 ≥ x5)) = true then
some (0, 15)
else
((code_missed p1).bind fun x7 =>
((loop (code_Nth_L9 p1) (p0, p2, x7, 11)).bind fun d => match d with
| k_s8_x9 => some (k_s8_x9, 0))))))))

theorem code_Nth_w (p0 : Int) (p1 : Int) (p2 : Int) (r : Int × Int) (w : World) (h : code_Nth p0 p1 p2 = some r) : CallVC Try.prog 35 [.int .i64 p0, .int .i64 p1, .int .i64 p2] w fun v w' => v = .tuple #[.int .i64 r.1, .int .i64 r.2] ∧ Ev [] w w' := by
  refine calls_vc hmx Try.func35 (by kernel_rfl) rfl (rs := [.tmp 6, .tmp 7]) rfl (by kernel_rfl) (args := [.int .i64 p0, .int .i64 p1, .int .i64 p2]) rfl ?_
  have hev : Ev [] w w := Ev.refl _ _
  have hms : MS w [[]] := ⟨List.pairwise_singleton _ _, fun l hl b hb => by simp only [List.mem_singleton] at hl; subst hl; cases hb⟩
  have hfr : FR w.heap.size [] := FR.nil _
  refine c_seq (c_plain ?_)
  refine x_pure 2 [(6, .int .i64 0), (7, .int .i64 0)] _ _ _ (by kernel_rfl) ?_
  refine x_end rfl (k_then ?_)
  refine c_seq ?_
  refine c_seq (c_plain ?_)
  refine x_pure 2 [(11, .int .i64 p1), (12, .int .i64 p2)] _ _ _ (by kernel_rfl) ?_
  obtain ⟨x2, hx, h⟩ := bind_some h
  have hcall := code_form_w p1 p2 _ w hx
  refine x_call 51 #[] #[] [.int .i64 p1, .int .i64 p2] _ rfl rfl rfl rfl hcall ?_
  rintro v w3 ⟨rfl, he3⟩
  clear hcall hx
  refine ⟨.inl rfl, ?_⟩
  replace hms := hms.ev he3
  replace hev := hev.ext he3
  refine x_pure 2 [(14, .bool (!x2)), (15, .bool (!x2))] _ _ _ (by kernel_rfl) ?_
  refine x_split 15 (!x2) rfl (fun hb => ?_) (fun hb => ?_)
  · replace h := ite_t hb h
    refine x_pure 3 [(16, undef), (17, undef), (18, .bool true)] _ _ _ (by kernel_rfl) ?_
    refine x_end rfl (k_then ?_)
    refine c_true rfl ?_
    refine c_seq (c_plain ?_)
    refine x_pure 2 [(6, .int .i64 0), (7, .int .i64 2)] _ _ _ (by kernel_rfl) ?_
    refine x_end rfl (k_then ?_)
    refine c_ret ?_
    refine k_then_ret ?_
    refine r_ret (r_vals [.int .i64 0, .int .i64 2] ⟨rfl, rfl, trivial⟩ ?_)
    have hx := some_inj h
    subst hx
    exact ⟨rfl, hev⟩
  replace h := ite_f hb h
  refine x_pure 3 [(16, .int .i64 p0), (17, .bool (decide (p0 < 0))), (18, .bool (decide (p0 < 0)))] _ _ _ (by kernel_rfl) ?_
  refine x_end rfl (k_then ?_)
  refine c_cond (decide (p0 < 0)) rfl (fun hb => ?_) (fun hb => ?_)
  · replace h := ite_t hb h
    refine c_seq (c_plain ?_)
    refine x_pure 2 [(6, .int .i64 0), (7, .int .i64 2)] _ _ _ (by kernel_rfl) ?_
    refine x_end rfl (k_then ?_)
    refine c_norm [(6, .int .i64 0), (7, .int .i64 2)] ⟨rfl, rfl, trivial⟩ (fun J => ?_)
    refine c_ret ?_
    refine k_then_ret ?_
    refine r_ret (r_vals [.int .i64 0, .int .i64 2] ⟨rfl, rfl, trivial⟩ ?_)
    have hx := some_inj h
    subst hx
    exact ⟨rfl, hev⟩
  replace h := ite_f hb h
  refine c_skip ?_
  refine k_then ?_
  refine c_seq ?_
  refine c_seq (c_plain ?_)
  refine x_pure 3 [(19, .int .i64 p0), (20, .int .i64 p1), (21, .int .i64 p2)] _ _ _ (by kernel_rfl) ?_
  obtain ⟨x5, hx, h⟩ := bind_some h
  have hcall := code_count_w 12 p1 p2 _ w3 hx
  refine x_call 53 #[] #[] [.int .i64 12, .int .i64 p1, .int .i64 p2] _ rfl rfl rfl rfl hcall ?_
  rintro v w6 ⟨rfl, he6⟩
  clear hcall hx
  refine ⟨.inl rfl, ?_⟩
  replace hms := hms.ev he6
  replace hev := hev.ext he6
  refine x_pure 1 [(23, .bool (decide (p0 ≥ x5)))] _ _ _ (by kernel_rfl) ?_
  refine x_end rfl (k_then ?_)
  refine c_norm [(0, .int .i64 p0), (1, .int .i64 p1), (2, .int .i64 p2), (23, .bool (decide (p0 ≥ x5)))] ⟨rfl, rfl, rfl, rfl, trivial⟩ (fun J => ?_)
  refine c_cond (decide (p0 ≥ x5)) rfl (fun hb => ?_) (fun hb => ?_)
  · replace h := ite_t hb h
    refine c_seq (c_plain ?_)
    refine x_pure 2 [(6, .int .i64 0), (7, .int .i64 15)] _ _ _ (by kernel_rfl) ?_
    refine x_end rfl (k_then ?_)
    refine c_ret ?_
    refine k_then_ret ?_
    refine r_ret (r_vals [.int .i64 0, .int .i64 15] ⟨rfl, rfl, trivial⟩ ?_)
    have hx := some_inj h
    subst hx
    exact ⟨rfl, hev⟩
  replace h := ite_f hb h
  refine c_skip ?_
  refine k_then ?_
  refine c_seq (c_plain ?_)
  refine x_pure 1 [(24, .int .i64 p1)] _ _ _ (by kernel_rfl) ?_
  obtain ⟨x7, hx, h⟩ := bind_some h
  have hcall := code_missed_w p1 _ w6 hx
  refine x_call 55 #[] #[] [.int .i64 p1] _ rfl rfl rfl rfl hcall ?_
  rintro v w8 ⟨rfl, he8⟩
  clear hcall hx
  refine ⟨.inl rfl, ?_⟩
  replace hms := hms.ev he8
  replace hev := hev.ext he8
  refine x_pure 1 [(8, .int .i64 x7)] _ _ _ (by kernel_rfl) ?_
  refine x_end rfl (k_then ?_)
  refine c_seq ?_
  refine c_seq (c_plain ?_)
  refine x_pure 1 [(9, .int .i64 11)] _ _ _ (by kernel_rfl) ?_
  refine x_end rfl (k_then ?_)
  refine c_block ?_
  obtain ⟨d9, hd9, h9⟩ := bind_some h
  obtain ⟨m9, hd9⟩ := loop_some hd9
  refine c_loop (loop_rule hmx (σ := Nat × Int × Int × Int × Int) (fun s => match s with | (_, i_s0_l9, weight_s2_l9, k_s8_l9, bit_s9_l9) => [(0, .int .i64 i_s0_l9), (1, .int .i64 p1), (2, .int .i64 weight_s2_l9), (8, .int .i64 k_s8_l9), (9, .int .i64 bit_s9_l9)]) (fun s w' => match s with | (m, i_s0_l9, weight_s2_l9, k_s8_l9, bit_s9_l9) => loopN (code_Nth_L9 p1) m (i_s0_l9, weight_s2_l9, k_s8_l9, bit_s9_l9) = some d9 ∧ Ev [] w w' ∧ MS w' [[]] ∧ FR w.heap.size []) (fun s => s.1) (m9, p0, p2, x7, 11) ⟨rfl, rfl, rfl, rfl, rfl, trivial⟩ ⟨hd9, hev, hms, hfr⟩ ?_)
  rintro ⟨m9, i_s0_l9, weight_s2_l9, k_s8_l9, bit_s9_l9⟩ J wl9 ⟨hn9, hev, hms, hfr⟩
  rcases m9 with _ | m9
  · exact (loopN_zero hn9).elim
  obtain ⟨t9, h, hn9⟩ := bind_some hn9
  refine c_seq ?_
  refine c_seq (c_plain ?_)
  refine x_pure 3 [(26, .int .i64 bit_s9_l9), (27, .int .i64 p1), (28, .bool (decide (bit_s9_l9 ≥ p1)))] _ _ _ (by kernel_rfl) ?_
  refine x_end rfl (k_then ?_)
  refine c_norm [(0, .int .i64 i_s0_l9), (1, .int .i64 p1), (2, .int .i64 weight_s2_l9), (8, .int .i64 k_s8_l9), (9, .int .i64 bit_s9_l9), (28, .bool (decide (bit_s9_l9 ≥ p1)))] ⟨rfl, rfl, rfl, rfl, rfl, rfl, trivial⟩ (fun J => ?_)
  refine c_cond (decide (bit_s9_l9 ≥ p1)) rfl (fun hb => ?_) (fun hb => ?_)
  · replace h := ite_t hb h
    refine c_skip ?_
    refine k_then ?_
    refine c_seq ?_
    refine c_block ?_
    refine c_seq (c_plain ?_)
    refine x_pure 3 [(31, .int .i64 bit_s9_l9), (32, .int .i64 p1), (33, .int .i64 weight_s2_l9)] _ _ _ (by kernel_rfl) ?_
    obtain ⟨x11, hx, h⟩ := bind_some h
    have hcall := code_count_w bit_s9_l9 p1 weight_s2_l9 _ wl9 hx
    refine x_call 53 #[] #[] [.int .i64 bit_s9_l9, .int .i64 p1, .int .i64 weight_s2_l9] _ rfl rfl rfl rfl hcall ?_
    rintro v w12 ⟨rfl, he12⟩
    clear hcall hx
    refine ⟨.inl rfl, ?_⟩
    replace hms := hms.ev he12
    replace hev := hev.ext he12
    refine x_pure 1 [(10, .int .i64 x11)] _ _ _ (by kernel_rfl) ?_
    refine x_end rfl (k_then ?_)
    refine c_seq (c_plain ?_)
    refine x_pure 3 [(35, .int .i64 i_s0_l9), (36, .int .i64 x11), (37, .bool (decide (i_s0_l9 ≥ x11)))] _ _ _ (by kernel_rfl) ?_
    refine x_end rfl (k_then ?_)
    refine c_cond (decide (i_s0_l9 ≥ x11)) rfl (fun hb => ?_) (fun hb => ?_)
    · replace h := ite_t hb h
      refine c_seq (c_plain ?_)
      refine x_pure 4 [(38, .int .i64 i_s0_l9), (39, .int .i64 x11), (40, .int .i64 (IntKind.i64.wrap (i_s0_l9 - x11))), (0, .int .i64 (IntKind.i64.wrap (i_s0_l9 - x11)))] _ _ _ (by kernel_rfl) ?_
      refine x_end rfl (k_then ?_)
      refine c_norm [(0, .int .i64 (IntKind.i64.wrap (i_s0_l9 - x11))), (1, .int .i64 p1), (2, .int .i64 weight_s2_l9), (8, .int .i64 k_s8_l9), (9, .int .i64 bit_s9_l9)] ⟨rfl, rfl, rfl, rfl, rfl, trivial⟩ (fun J => ?_)
      refine c_seq (c_plain ?_)
      refine x_pure 3 [(41, .int .i64 weight_s2_l9), (42, .int .i64 (IntKind.i64.wrap (weight_s2_l9 - 1))), (2, .int .i64 (IntKind.i64.wrap (weight_s2_l9 - 1)))] _ _ _ (by kernel_rfl) ?_
      refine x_end rfl (k_then ?_)
      refine c_plain ?_
      refine x_pure 2 [(43, .int .i64 k_s8_l9), (44, .int .i64 bit_s9_l9)] _ _ _ (by kernel_rfl) ?_
      refine x_binop (.int .i64 (IntKind.i64.wrap (1 * 2 ^ (min (Int.toNat (bit_s9_l9)) IntKind.i64.bits)))) (.int .i64 1) (.int .i64 bit_s9_l9) rfl rfl rfl rfl (vb_shl (guard_l h)) ?_
      replace h := guard_r h
      refine x_pure 2 [(46, .int .i64 (IntKind.i64.wrap ↑(BitVec.ofInt IntKind.i64.bits k_s8_l9 ||| BitVec.ofInt IntKind.i64.bits (IntKind.i64.wrap (1 * 2 ^ (min (Int.toNat (bit_s9_l9)) IntKind.i64.bits)))).toNat)), (8, .int .i64 (IntKind.i64.wrap ↑(BitVec.ofInt IntKind.i64.bits k_s8_l9 ||| BitVec.ofInt IntKind.i64.bits (IntKind.i64.wrap (1 * 2 ^ (min (Int.toNat (bit_s9_l9)) IntKind.i64.bits)))).toNat))] _ _ _ (by kernel_rfl) ?_
      refine x_end rfl ?_
      refine k_block ?_
      refine k_then ?_
      refine c_plain ?_
      refine x_pure 3 [(29, .int .i64 bit_s9_l9), (30, .int .i64 (IntKind.i64.wrap (bit_s9_l9 - 1))), (9, .int .i64 (IntKind.i64.wrap (bit_s9_l9 - 1)))] _ _ _ (by kernel_rfl) ?_
      refine x_end rfl ?_
      have hx := some_inj h
      subst hx
      exact k_then ⟨(m9, IntKind.i64.wrap (i_s0_l9 - x11), IntKind.i64.wrap (weight_s2_l9 - 1), IntKind.i64.wrap ↑(BitVec.ofInt IntKind.i64.bits k_s8_l9 ||| BitVec.ofInt IntKind.i64.bits (IntKind.i64.wrap (1 * 2 ^ (min (Int.toNat (bit_s9_l9)) IntKind.i64.bits)))).toNat, IntKind.i64.wrap (bit_s9_l9 - 1)), ⟨rfl, rfl, rfl, rfl, rfl, trivial⟩, ⟨hn9, hev, hms, hfr⟩, Nat.lt_succ_self _⟩
    replace h := ite_f hb h
    refine c_skip ?_
    refine k_block ?_
    refine k_then ?_
    refine c_plain ?_
    refine x_pure 3 [(29, .int .i64 bit_s9_l9), (30, .int .i64 (IntKind.i64.wrap (bit_s9_l9 - 1))), (9, .int .i64 (IntKind.i64.wrap (bit_s9_l9 - 1)))] _ _ _ (by kernel_rfl) ?_
    refine x_end rfl ?_
    have hx := some_inj h
    subst hx
    exact k_then ⟨(m9, i_s0_l9, weight_s2_l9, k_s8_l9, IntKind.i64.wrap (bit_s9_l9 - 1)), ⟨rfl, rfl, rfl, rfl, rfl, trivial⟩, ⟨hn9, hev, hms, hfr⟩, Nat.lt_succ_self _⟩
  replace h := ite_f hb h
  refine c_exit ?_
  refine k_then_exit ?_
  have hx := some_inj h
  subst hx
  have hy := some_inj hn9
  subst hy
  replace h := h9
  refine k_then_exit ?_
  refine k_block_in ?_
  refine k_then ?_
  refine c_norm [(8, .int .i64 k_s8_l9)] ⟨rfl, trivial⟩ (fun J => ?_)
  refine c_seq (c_plain ?_)
  refine x_pure 3 [(47, .int .i64 k_s8_l9), (6, .int .i64 k_s8_l9), (7, .int .i64 0)] _ _ _ (by kernel_rfl) ?_
  refine x_end rfl (k_then ?_)
  refine c_ret ?_
  refine r_ret (r_vals [.int .i64 k_s8_l9, .int .i64 0] ⟨rfl, rfl, trivial⟩ ?_)
  have hx := some_inj h
  subst hx
  exact ⟨rfl, hev⟩
end Go.Proofs.Ytgdaanhiagoonaa
