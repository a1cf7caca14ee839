/- Walks, printed by program: each function returns what the partial function of the same name returns. Conditions: those of each theorem. -/
import Derived.Test.YtdbomhhcebmkpaaGT
set_option linter.unusedVariables false
set_option linter.unusedSimpArgs false
set_option maxRecDepth 4000
namespace Go.Proofs.Ytdbomhhcebmkpaa
open Go Go.V Go.Proofs
def law16_refused_L13 (p1 : List Int) (x5 : Int) (s : Int × Int) : Option (Step (Int × Int) Int) :=
match s with
| (v_m_s8_l13, t33__s33_l13) =>
(if (decide (t33__s33_l13 < ((p1).length : Int))) = true then
((idx p1 t33__s33_l13).bind fun x15 =>
(if (decide (x15 ≥ x5)) = true then
some (.next (IntKind.i64.wrap (v_m_s8_l13 + 1), IntKind.i64.wrap (t33__s33_l13 + 1)))
else
some (.next (v_m_s8_l13, IntKind.i64.wrap (t33__s33_l13 + 1)))))
else
some (.done v_m_s8_l13))

def law16_refused_L8 (p0 : List Int) (x5 : Int) (s : Int × Int) : Option (Step (Int × Int) Int) :=
match s with
| (n_s7_l8, t21__s21_l8) =>
(if (decide (t21__s21_l8 < ((p0).length : Int))) = true then
((idx p0 t21__s21_l8).bind fun x10 =>
(if (decide (x10 ≥ x5)) = true then
some (.next (IntKind.i64.wrap (n_s7_l8 + 1), IntKind.i64.wrap (t21__s21_l8 + 1)))
else
some (.next (n_s7_l8, IntKind.i64.wrap (t21__s21_l8 + 1)))))
else
some (.done n_s7_l8))

def law16_refused_L3 (p0 : List Int) (p1 : List Int) (s : Int) : Option (Step Int (Unit ⊕ Unit)) :=
match s with
| t15__s15_l3 =>
(if (decide (t15__s15_l3 < ((p0).length : Int))) = true then
((idx p0 t15__s15_l3).bind fun x5 =>
((loop (law16_refused_L8 p0 x5) (0, 0)).bind fun d => match d with
| n_s7_x8 => ((loop (law16_refused_L13 p1 x5) (0, 0)).bind fun d => match d with
| v_m_s8_x13 => (if (decide (x5 > 0)) = true then
(if (decide (v_m_s8_x13 < n_s7_x8)) = true then
some (.done (.inl ()))
else
some (.next (IntKind.i64.wrap (t15__s15_l3 + 1))))
else
some (.next (IntKind.i64.wrap (t15__s15_l3 + 1)))))))
else
some (.done (.inr ())))

def law16_refused (p0 : List Int) (p1 : List Int) : Option Bool :=
((loop (law16_refused_L3 p0 p1) 0).bind fun d => match d with
| (.inl _) => some true
| (.inr _) => some false)

theorem law16_refused_w (a_p0 : Option Addr) (c_p0 : Nat) (p0 : List Int) (a_p1 : Option Addr) (c_p1 : Nat) (p1 : List Int) (r : Bool) (w : World) (M : List Nat) (hms : MS w [M]) (hs_p0 : SlR (eInt .i64) w (fl [M]) a_p0 c_p0 p0) (hs_p1 : SlR (eInt .i64) w (fl [M]) a_p1 c_p1 p1) (h : law16_refused p0 p1 = some r) : CallVC Try.prog 19 [.slice a_p0 (p0).length c_p0, .slice a_p1 (p1).length c_p1] w fun v w' => v = .bool r ∧ Ev [] w w' := by
 refine calls_vc hmx Try.func19 (by kernel_rfl) rfl (rs := [.tmp 4]) rfl (by kernel_rfl) (args := [.slice a_p0 (p0).length c_p0, .slice a_p1 (p1).length c_p1]) rfl ?_
 have hev : Ev [] w w := Ev.refl _ _
 have hfr : FR w.heap.size [] := FR.nil _
 refine c_sp ?_
 refine x_pure 1 [(4, .bool false)] _ _ _ (by kernel_rfl) ?_
 refine x_ek ?_
 refine c_seq ?_
 refine c_sp ?_
 refine x_pure 1 [(13, .slice a_p0 (p0).length c_p0)] _ _ _ (by kernel_rfl) ?_
 refine x_len (vs := [.slice a_p0 (p0).length c_p0]) (Vi ((p0).length : Int)) rfl rfl rfl (reads_len tsl22 _ _ _ _ _) ?_
 refine x_pure 1 [(15, Vi 0)] _ _ _ (by kernel_rfl) ?_
 refine x_ek ?_
 refine c_block ?_
 obtain ⟨d3, hd3, h3⟩ := bind_some h
 obtain ⟨m3, hd3⟩ := loop_some hd3
 refine c_loop (loop_rule hmx (σ := Nat × Int) (fun s => match s with | (_, t15__s15_l3) => [(0, .slice a_p0 (p0).length c_p0), (1, .slice a_p1 (p1).length c_p1), (13, .slice a_p0 (p0).length c_p0), (14, Vi ((p0).length : Int)), (15, Vi t15__s15_l3)]) (fun s w' => match s with | (m, t15__s15_l3) => loopN (law16_refused_L3 p0 p1) m t15__s15_l3 = some d3 ∧ Ev [] w w' ∧ MS w' [M] ∧ FR w.heap.size [] ∧ SlR (eInt .i64) w' (fl [M]) a_p0 c_p0 p0 ∧ SlR (eInt .i64) w' (fl [M]) a_p1 c_p1 p1) (fun s => s.1) (m3, 0) ⟨rfl, rfl, rfl, rfl, rfl, trivial⟩ ⟨hd3, hev, hms, hfr, hs_p0, hs_p1⟩ ?_)
 rintro ⟨m3, t15__s15_l3⟩ J wl3 ⟨hn3, hev, hms, hfr, hs_p0, hs_p1⟩
 rcases m3 with _ | m3
 · exact (loopN_zero hn3).elim
 obtain ⟨t3, h, hn3⟩ := bind_some hn3
 refine c_sp ?_
 refine x_pure 1 [(16, .bool (decide (t15__s15_l3 < ((p0).length : Int))))] _ _ _ (by kernel_rfl) ?_
 refine x_ek ?_
 refine c_norm [(0, .slice a_p0 (p0).length c_p0), (1, .slice a_p1 (p1).length c_p1), (13, .slice a_p0 (p0).length c_p0), (14, Vi ((p0).length : Int)), (15, Vi t15__s15_l3), (16, .bool (decide (t15__s15_l3 < ((p0).length : Int))))] ⟨rfl, rfl, rfl, rfl, rfl, rfl, trivial⟩ (fun J => ?_)
 refine c_seq ?_
 refine c_cond (decide (t15__s15_l3 < ((p0).length : Int))) rfl (fun hb => ?_) (fun hb => ?_)
 · replace h := ite_t hb h
   refine c_skip ?_
   refine k_then ?_
   refine c_seq ?_
   refine c_block ?_
   refine c_sp ?_
   obtain ⟨x5, hx5, h⟩ := bind_some h
   obtain ⟨ad5, cs5, hr5, hc5, hR⟩ := reads_index (Mo := []) tsl22 hs_p0 hx5
   obtain rfl := hR
   refine x_indexAddr (xv := .slice a_p0 (p0).length c_p0) (yv := Vi t15__s15_l3) (.pointer (some ad5)) rfl rfl rfl rfl hr5 ?_
   refine x_load (xv := .pointer (some ad5)) (Vi x5) rfl rfl rfl (reads_cell0 tcell3 hc5 (fun _ h => by cases h)) ?_
   refine x_pure 1 [(6, Vi x5)] _ _ _ (by kernel_rfl) ?_
   refine x_ek ?_
   refine c_sp ?_
   refine x_pure 2 [(7, Vi 0), (8, Vi 0)] _ _ _ (by kernel_rfl) ?_
   refine x_ek ?_
   refine c_seq ?_
   refine c_sp ?_
   refine x_pure 1 [(19, .slice a_p0 (p0).length c_p0)] _ _ _ (by kernel_rfl) ?_
   refine x_len (vs := [.slice a_p0 (p0).length c_p0]) (Vi ((p0).length : Int)) rfl rfl rfl (reads_len tsl22 _ _ _ _ _) ?_
   refine x_pure 1 [(21, Vi 0)] _ _ _ (by kernel_rfl) ?_
   refine x_ek ?_
   refine c_block ?_
   obtain ⟨d8, hd8, h8⟩ := bind_some h
   obtain ⟨m8, hd8⟩ := loop_some hd8
   refine c_loop (loop_rule hmx (σ := Nat × Int × Int) (fun s => match s with | (_, n_s7_l8, t21__s21_l8) => [(0, .slice a_p0 (p0).length c_p0), (1, .slice a_p1 (p1).length c_p1), (6, Vi x5), (7, Vi n_s7_l8), (8, Vi 0), (13, .slice a_p0 (p0).length c_p0), (14, Vi ((p0).length : Int)), (15, Vi t15__s15_l3), (19, .slice a_p0 (p0).length c_p0), (20, Vi ((p0).length : Int)), (21, Vi t21__s21_l8)]) (fun s w' => match s with | (m, n_s7_l8, t21__s21_l8) => loopN (law16_refused_L8 p0 x5) m (n_s7_l8, t21__s21_l8) = some d8 ∧ Ev [] w w' ∧ MS w' [M] ∧ FR w.heap.size [] ∧ SlR (eInt .i64) w' (fl [M]) a_p0 c_p0 p0 ∧ SlR (eInt .i64) w' (fl [M]) a_p1 c_p1 p1) (fun s => s.1) (m8, 0, 0) ⟨rfl, rfl, rfl, rfl, rfl, rfl, rfl, rfl, rfl, rfl, rfl, trivial⟩ ⟨hd8, hev, hms, hfr, hs_p0, hs_p1⟩ ?_)
   rintro ⟨m8, n_s7_l8, t21__s21_l8⟩ J wl8 ⟨hn8, hev, hms, hfr, hs_p0, hs_p1⟩
   rcases m8 with _ | m8
   · exact (loopN_zero hn8).elim
   obtain ⟨t8, h, hn8⟩ := bind_some hn8
   refine c_sp ?_
   refine x_pure 1 [(22, .bool (decide (t21__s21_l8 < ((p0).length : Int))))] _ _ _ (by kernel_rfl) ?_
   refine x_ek ?_
   refine c_norm [(0, .slice a_p0 (p0).length c_p0), (1, .slice a_p1 (p1).length c_p1), (6, Vi x5), (7, Vi n_s7_l8), (8, Vi 0), (13, .slice a_p0 (p0).length c_p0), (14, Vi ((p0).length : Int)), (15, Vi t15__s15_l3), (19, .slice a_p0 (p0).length c_p0), (20, Vi ((p0).length : Int)), (21, Vi t21__s21_l8), (22, .bool (decide (t21__s21_l8 < ((p0).length : Int))))] ⟨rfl, rfl, rfl, rfl, rfl, rfl, rfl, rfl, rfl, rfl, rfl, rfl, trivial⟩ (fun J => ?_)
   refine c_seq ?_
   refine c_cond (decide (t21__s21_l8 < ((p0).length : Int))) rfl (fun hb => ?_) (fun hb => ?_)
   · replace h := ite_t hb h
     refine c_skip ?_
     refine k_then ?_
     refine c_seq ?_
     refine c_block ?_
     refine c_sp ?_
     obtain ⟨x10, hx10, h⟩ := bind_some h
     obtain ⟨ad10, cs10, hr10, hc10, hR⟩ := reads_index (Mo := []) tsl22 hs_p0 hx10
     obtain rfl := hR
     refine x_indexAddr (xv := .slice a_p0 (p0).length c_p0) (yv := Vi t21__s21_l8) (.pointer (some ad10)) rfl rfl rfl rfl hr10 ?_
     refine x_load (xv := .pointer (some ad10)) (Vi x10) rfl rfl rfl (reads_cell0 tcell3 hc10 (fun _ h => by cases h)) ?_
     refine x_pure 1 [(10, Vi x10)] _ _ _ (by kernel_rfl) ?_
     refine x_ek ?_
     refine c_sp ?_
     refine x_pure 3 [(25, Vi x10), (26, Vi x5), (27, .bool (decide (x10 ≥ x5)))] _ _ _ (by kernel_rfl) ?_
     refine x_ek ?_
     refine c_cond (decide (x10 ≥ x5)) rfl (fun hb => ?_) (fun hb => ?_)
     · replace h := ite_t hb h
       refine c_plain ?_
       refine x_pure 3 [(28, Vi n_s7_l8), (29, Vi (IntKind.i64.wrap (n_s7_l8 + 1))), (7, Vi (IntKind.i64.wrap (n_s7_l8 + 1)))] _ _ _ (by kernel_rfl) ?_
       refine x_end rfl ?_
       refine k_block ?_
       refine k_then ?_
       refine c_plain ?_
       refine x_pure 2 [(30, Vi (IntKind.i64.wrap (t21__s21_l8 + 1))), (21, Vi (IntKind.i64.wrap (t21__s21_l8 + 1)))] _ _ _ (by kernel_rfl) ?_
       refine x_end rfl ?_
       have hx := some_inj h
       subst hx
       exact k_then ⟨(m8, IntKind.i64.wrap (n_s7_l8 + 1), IntKind.i64.wrap (t21__s21_l8 + 1)), ⟨rfl, rfl, rfl, rfl, rfl, rfl, rfl, rfl, rfl, rfl, rfl, trivial⟩, ⟨hn8, hev, hms, hfr, hs_p0, hs_p1⟩, Nat.lt_succ_self _⟩
     replace h := ite_f hb h
     refine c_skip ?_
     refine k_block ?_
     refine k_then ?_
     refine c_plain ?_
     refine x_pure 2 [(30, Vi (IntKind.i64.wrap (t21__s21_l8 + 1))), (21, Vi (IntKind.i64.wrap (t21__s21_l8 + 1)))] _ _ _ (by kernel_rfl) ?_
     refine x_end rfl ?_
     have hx := some_inj h
     subst hx
     exact k_then ⟨(m8, n_s7_l8, IntKind.i64.wrap (t21__s21_l8 + 1)), ⟨rfl, rfl, rfl, rfl, rfl, rfl, rfl, rfl, rfl, rfl, rfl, trivial⟩, ⟨hn8, hev, hms, hfr, hs_p0, hs_p1⟩, Nat.lt_succ_self _⟩
   replace h := ite_f hb h
   refine c_exit ?_
   refine k_then_exit ?_
   have hx := some_inj h
   subst hx
   have hy := some_inj hn8
   subst hy
   replace h := h8
   refine k_then_exit ?_
   refine k_block_in ?_
   refine k_then ?_
   refine c_norm [(0, .slice a_p0 (p0).length c_p0), (1, .slice a_p1 (p1).length c_p1), (6, Vi x5), (7, Vi n_s7_l8), (8, Vi 0), (13, .slice a_p0 (p0).length c_p0), (14, Vi ((p0).length : Int)), (15, Vi t15__s15_l3)] ⟨rfl, rfl, rfl, rfl, rfl, rfl, rfl, rfl, trivial⟩ (fun J => ?_)
   refine c_seq ?_
   refine c_sp ?_
   refine x_pure 1 [(31, .slice a_p1 (p1).length c_p1)] _ _ _ (by kernel_rfl) ?_
   refine x_len (vs := [.slice a_p1 (p1).length c_p1]) (Vi ((p1).length : Int)) rfl rfl rfl (reads_len tsl22 _ _ _ _ _) ?_
   refine x_pure 1 [(33, Vi 0)] _ _ _ (by kernel_rfl) ?_
   refine x_ek ?_
   refine c_block ?_
   obtain ⟨d13, hd13, h13⟩ := bind_some h
   obtain ⟨m13, hd13⟩ := loop_some hd13
   refine c_loop (loop_rule hmx (σ := Nat × Int × Int) (fun s => match s with | (_, v_m_s8_l13, t33__s33_l13) => [(0, .slice a_p0 (p0).length c_p0), (1, .slice a_p1 (p1).length c_p1), (6, Vi x5), (7, Vi n_s7_l8), (8, Vi v_m_s8_l13), (13, .slice a_p0 (p0).length c_p0), (14, Vi ((p0).length : Int)), (15, Vi t15__s15_l3), (31, .slice a_p1 (p1).length c_p1), (32, Vi ((p1).length : Int)), (33, Vi t33__s33_l13)]) (fun s w' => match s with | (m, v_m_s8_l13, t33__s33_l13) => loopN (law16_refused_L13 p1 x5) m (v_m_s8_l13, t33__s33_l13) = some d13 ∧ Ev [] w w' ∧ MS w' [M] ∧ FR w.heap.size [] ∧ SlR (eInt .i64) w' (fl [M]) a_p0 c_p0 p0 ∧ SlR (eInt .i64) w' (fl [M]) a_p1 c_p1 p1) (fun s => s.1) (m13, 0, 0) ⟨rfl, rfl, rfl, rfl, rfl, rfl, rfl, rfl, rfl, rfl, rfl, trivial⟩ ⟨hd13, hev, hms, hfr, hs_p0, hs_p1⟩ ?_)
   rintro ⟨m13, v_m_s8_l13, t33__s33_l13⟩ J wl13 ⟨hn13, hev, hms, hfr, hs_p0, hs_p1⟩
   rcases m13 with _ | m13
   · exact (loopN_zero hn13).elim
   obtain ⟨t13, h, hn13⟩ := bind_some hn13
   refine c_sp ?_
   refine x_pure 1 [(34, .bool (decide (t33__s33_l13 < ((p1).length : Int))))] _ _ _ (by kernel_rfl) ?_
   refine x_ek ?_
   refine c_norm [(0, .slice a_p0 (p0).length c_p0), (1, .slice a_p1 (p1).length c_p1), (6, Vi x5), (7, Vi n_s7_l8), (8, Vi v_m_s8_l13), (13, .slice a_p0 (p0).length c_p0), (14, Vi ((p0).length : Int)), (15, Vi t15__s15_l3), (31, .slice a_p1 (p1).length c_p1), (32, Vi ((p1).length : Int)), (33, Vi t33__s33_l13), (34, .bool (decide (t33__s33_l13 < ((p1).length : Int))))] ⟨rfl, rfl, rfl, rfl, rfl, rfl, rfl, rfl, rfl, rfl, rfl, rfl, trivial⟩ (fun J => ?_)
   refine c_seq ?_
   refine c_cond (decide (t33__s33_l13 < ((p1).length : Int))) rfl (fun hb => ?_) (fun hb => ?_)
   · replace h := ite_t hb h
     refine c_skip ?_
     refine k_then ?_
     refine c_seq ?_
     refine c_block ?_
     refine c_sp ?_
     obtain ⟨x15, hx15, h⟩ := bind_some h
     obtain ⟨ad15, cs15, hr15, hc15, hR⟩ := reads_index (Mo := []) tsl22 hs_p1 hx15
     obtain rfl := hR
     refine x_indexAddr (xv := .slice a_p1 (p1).length c_p1) (yv := Vi t33__s33_l13) (.pointer (some ad15)) rfl rfl rfl rfl hr15 ?_
     refine x_load (xv := .pointer (some ad15)) (Vi x15) rfl rfl rfl (reads_cell0 tcell3 hc15 (fun _ h => by cases h)) ?_
     refine x_pure 1 [(12, Vi x15)] _ _ _ (by kernel_rfl) ?_
     refine x_ek ?_
     refine c_sp ?_
     refine x_pure 3 [(37, Vi x15), (38, Vi x5), (39, .bool (decide (x15 ≥ x5)))] _ _ _ (by kernel_rfl) ?_
     refine x_ek ?_
     refine c_cond (decide (x15 ≥ x5)) rfl (fun hb => ?_) (fun hb => ?_)
     · replace h := ite_t hb h
       refine c_plain ?_
       refine x_pure 3 [(40, Vi v_m_s8_l13), (41, Vi (IntKind.i64.wrap (v_m_s8_l13 + 1))), (8, Vi (IntKind.i64.wrap (v_m_s8_l13 + 1)))] _ _ _ (by kernel_rfl) ?_
       refine x_end rfl ?_
       refine k_block ?_
       refine k_then ?_
       refine c_plain ?_
       refine x_pure 2 [(42, Vi (IntKind.i64.wrap (t33__s33_l13 + 1))), (33, Vi (IntKind.i64.wrap (t33__s33_l13 + 1)))] _ _ _ (by kernel_rfl) ?_
       refine x_end rfl ?_
       have hx := some_inj h
       subst hx
       exact k_then ⟨(m13, IntKind.i64.wrap (v_m_s8_l13 + 1), IntKind.i64.wrap (t33__s33_l13 + 1)), ⟨rfl, rfl, rfl, rfl, rfl, rfl, rfl, rfl, rfl, rfl, rfl, trivial⟩, ⟨hn13, hev, hms, hfr, hs_p0, hs_p1⟩, Nat.lt_succ_self _⟩
     replace h := ite_f hb h
     refine c_skip ?_
     refine k_block ?_
     refine k_then ?_
     refine c_plain ?_
     refine x_pure 2 [(42, Vi (IntKind.i64.wrap (t33__s33_l13 + 1))), (33, Vi (IntKind.i64.wrap (t33__s33_l13 + 1)))] _ _ _ (by kernel_rfl) ?_
     refine x_end rfl ?_
     have hx := some_inj h
     subst hx
     exact k_then ⟨(m13, v_m_s8_l13, IntKind.i64.wrap (t33__s33_l13 + 1)), ⟨rfl, rfl, rfl, rfl, rfl, rfl, rfl, rfl, rfl, rfl, rfl, trivial⟩, ⟨hn13, hev, hms, hfr, hs_p0, hs_p1⟩, Nat.lt_succ_self _⟩
   replace h := ite_f hb h
   refine c_exit ?_
   refine k_then_exit ?_
   have hx := some_inj h
   subst hx
   have hy := some_inj hn13
   subst hy
   replace h := h13
   refine k_then_exit ?_
   refine k_block_in ?_
   refine k_then ?_
   refine c_norm [(0, .slice a_p0 (p0).length c_p0), (1, .slice a_p1 (p1).length c_p1), (6, Vi x5), (7, Vi n_s7_l8), (8, Vi v_m_s8_l13), (13, .slice a_p0 (p0).length c_p0), (14, Vi ((p0).length : Int)), (15, Vi t15__s15_l3)] ⟨rfl, rfl, rfl, rfl, rfl, rfl, rfl, rfl, trivial⟩ (fun J => ?_)
   refine c_sp ?_
   refine x_pure 3 [(43, Vi x5), (44, .bool (decide (x5 > 0))), (45, .bool (decide (x5 > 0)))] _ _ _ (by kernel_rfl) ?_
   refine x_split 45 (decide (x5 > 0)) rfl (fun hb => ?_) (fun hb => ?_)
   · replace h := ite_t hb h
     refine x_pure 4 [(46, Vi v_m_s8_l13), (47, Vi n_s7_l8), (48, .bool (decide (v_m_s8_l13 < n_s7_l8))), (49, .bool (decide (v_m_s8_l13 < n_s7_l8)))] _ _ _ (by kernel_rfl) ?_
     refine x_ek ?_
     refine c_cond (decide (v_m_s8_l13 < n_s7_l8)) rfl (fun hb => ?_) (fun hb => ?_)
     · replace h := ite_t hb h
       refine c_sp ?_
       refine x_pure 1 [(4, .bool true)] _ _ _ (by kernel_rfl) ?_
       refine x_ek ?_
       refine c_ret ?_
       refine k_block_ret ?_
       refine k_then_ret ?_
       have hx := some_inj h
       subst hx
       have hy := some_inj hn3
       subst hy
       replace h := h3
       refine k_then_ret ?_
       refine k_block_ret ?_
       refine k_then_ret ?_
       refine r_ret (r_vals [.bool true] ⟨rfl, trivial⟩ ?_)
       have hx := some_inj h
       subst hx
       have hmr : MS wl13 [M] := hms.pick [some 0] _ rfl
       have hsu : ∀ x ∈ fl [M], x ∈ fl [M] := pick_sub [some 0] _ rfl
       exact ⟨rfl, hev⟩
     replace h := ite_f hb h
     refine c_skip ?_
     refine k_block ?_
     refine k_then ?_
     refine c_plain ?_
     refine x_pure 2 [(50, Vi (IntKind.i64.wrap (t15__s15_l3 + 1))), (15, Vi (IntKind.i64.wrap (t15__s15_l3 + 1)))] _ _ _ (by kernel_rfl) ?_
     refine x_end rfl ?_
     have hx := some_inj h
     subst hx
     exact k_then ⟨(m3, IntKind.i64.wrap (t15__s15_l3 + 1)), ⟨rfl, rfl, rfl, rfl, rfl, trivial⟩, ⟨hn3, hev, hms, hfr, hs_p0, hs_p1⟩, Nat.lt_succ_self _⟩
   replace h := ite_f hb h
   refine x_pure 4 [(46, undef), (47, undef), (48, undef), (49, .bool false)] _ _ _ (by kernel_rfl) ?_
   refine x_ek ?_
   refine c_false rfl ?_
   refine c_skip ?_
   refine k_block ?_
   refine k_then ?_
   refine c_plain ?_
   refine x_pure 2 [(50, Vi (IntKind.i64.wrap (t15__s15_l3 + 1))), (15, Vi (IntKind.i64.wrap (t15__s15_l3 + 1)))] _ _ _ (by kernel_rfl) ?_
   refine x_end rfl ?_
   have hx := some_inj h
   subst hx
   exact k_then ⟨(m3, IntKind.i64.wrap (t15__s15_l3 + 1)), ⟨rfl, rfl, rfl, rfl, rfl, trivial⟩, ⟨hn3, hev, hms, hfr, hs_p0, hs_p1⟩, Nat.lt_succ_self _⟩
 replace h := ite_f hb h
 refine c_exit ?_
 refine k_then_exit ?_
 have hx := some_inj h
 subst hx
 have hy := some_inj hn3
 subst hy
 replace h := h3
 refine k_then_exit ?_
 refine k_block_in ?_
 refine k_then ?_
 refine c_norm [] trivial (fun J => ?_)
 refine c_sp ?_
 refine x_pure 1 [(4, .bool false)] _ _ _ (by kernel_rfl) ?_
 refine x_ek ?_
 refine c_ret ?_
 refine r_ret (r_vals [.bool false] ⟨rfl, trivial⟩ ?_)
 have hx := some_inj h
 subst hx
 have hmr : MS wl3 [M] := hms.pick [some 0] _ rfl
 have hsu : ∀ x ∈ fl [M], x ∈ fl [M] := pick_sub [some 0] _ rfl
 exact ⟨rfl, hev⟩
end Go.Proofs.Ytdbomhhcebmkpaa
