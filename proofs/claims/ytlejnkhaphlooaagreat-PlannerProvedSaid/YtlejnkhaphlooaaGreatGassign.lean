
/- Walks, printed by program: each function returns what the partial function of the same name returns. Conditions: those of each theorem. -/
import Derived.Test.YtlejnkhaphlooaaGreatGT
import Derived.Test.YtlejnkhaphlooaaGreatGslassign
import Derived.Test.YtlejnkhaphlooaaGreatGslices
set_option linter.unusedVariables false
set_option linter.unusedSimpArgs false
set_option maxRecDepth 4000
namespace Go.Proofs.YtlejnkhaphlooaaGreat
open Go Go.V Go.Proofs
def assign_check_L9 (p1 : List Int) (s : Int) : Option (Step Int (Unit ⊕ Unit)) :=
match s with
| t32__s32_l9 =>
(if (decide (t32__s32_l9 < ((p1).length : Int))) = true then
((idx p1 t32__s32_l9).bind fun x11 =>
(if (decide (x11 < 1)) = true then
some (.done (.inl ()))
else
(if (decide (x11 > 38400)) = true then
some (.done (.inl ()))
else
some (.next (IntKind.i64.wrap (t32__s32_l9 + 1))))))
else
some (.done (.inr ())))
def assign_check_L5 (p0 : List Int) (s : Int) : Option (Step Int (Unit ⊕ Unit)) :=
match s with
| t19__s19_l5 =>
(if (decide (t19__s19_l5 < ((p0).length : Int))) = true then
((idx p0 t19__s19_l5).bind fun x7 =>
(if (decide (x7 < 0)) = true then
some (.done (.inl ()))
else
(if (decide (x7 > 38400)) = true then
some (.done (.inl ()))
else
some (.next (IntKind.i64.wrap (t19__s19_l5 + 1))))))
else
some (.done (.inr ())))
def assign_check (p0 : List Int) (p1 : List Int) : Option Int :=
(if (decide (((p0).length : Int) > 32)) = true then
some 3
else
(if (decide (((p1).length : Int) > 32)) = true then
some 3
else
((loop (assign_check_L5 p0) 0).bind fun d => match d with
| (.inl _) => some 2
| (.inr _) => ((loop (assign_check_L9 p1) 0).bind fun d => match d with
| (.inl _) => some 2
| (.inr _) => some 0))))
theorem assign_check_w (a_p0 : Option Addr) (c_p0 : Nat) (p0 : List Int) (a_p1 : Option Addr) (c_p1 : Nat) (p1 : List Int) (r : Int) (w : World) (M : List Nat) (hms : MS w [M]) (hs_p0 : SlR (eInt .i64) w (fl [M]) a_p0 c_p0 p0) (hs_p1 : SlR (eInt .i64) w (fl [M]) a_p1 c_p1 p1) (h : assign_check p0 p1 = some r) : CallVC Tryz.prog 71 [Vl a_p0 p0 c_p0, Vl a_p1 p1 c_p1] w fun v w' => v = Vi r ∧ Ev [] w w' := by
 refine calls_vc hmx Tryz.func71 (by kernel_rfl) rfl (rs := [.tmp 4]) rfl (by kernel_rfl) (args := [Vl a_p0 p0 c_p0, Vl a_p1 p1 c_p1]) rfl ?_
 have hev : Ev [] w w := Ev.refl _ _
 have hfr : FR w.heap.size [] := FR.nil _
 refine c_sp (x_u 1 [(4, Vi 0)] (x_ek (c_seq (c_sp (x_u 1 [(9, Vl a_p0 p0 c_p0)] ?_)))))
 refine x_len (vs := [Vl a_p0 p0 c_p0]) (Vi ((p0).length : Int)) rfl rfl rfl (reads_len tsl22 _ _ _ _ _) (x_u 2 [(11, .bool (decide (((p0).length : Int) > 32))), (12, .bool (decide (((p0).length : Int) > 32)))] (x_if 12 (decide (((p0).length : Int) > 32)) rfl h (fun h => ?_) (fun h => ?_)))
 · refine x_u 4 [(13, undef), (14, undef), (15, undef), (16, .bool true)] (x_ek (c_true rfl (c_sp (x_u 1 [(4, Vi 3)] (x_ek ?_)))))
   refine c_ret (k_then_ret (r_ret (r_vals [Vi 3] ⟨rfl, trivial⟩ ?_)))
   obtain rfl := some_inj h
   exact ⟨rfl, hev⟩
 refine x_u 1 [(13, Vl a_p1 p1 c_p1)] (x_len (vs := [Vl a_p1 p1 c_p1]) (Vi ((p1).length : Int)) rfl rfl rfl (reads_len tsl22 _ _ _ _ _) (x_u 2 [(15, .bool (decide (((p1).length : Int) > 32))), (16, .bool (decide (((p1).length : Int) > 32)))] (x_ek (c_if (decide (((p1).length : Int) > 32)) rfl h (fun h => ?_) (fun h => ?_)))))
 · refine c_sp (x_u 1 [(4, Vi 3)] (x_ek (c_ret (k_then_ret (r_ret (r_vals [Vi 3] ⟨rfl, trivial⟩ ?_))))))
   obtain rfl := some_inj h
   exact ⟨rfl, hev⟩
 refine c_skip (k_then (c_seq (c_sp (x_u 1 [(17, Vl a_p0 p0 c_p0)] (x_len (vs := [Vl a_p0 p0 c_p0]) (Vi ((p0).length : Int)) rfl rfl rfl (reads_len tsl22 _ _ _ _ _) ?_)))))
 refine x_u 1 [(19, Vi 0)] (x_ek (c_nm [(1, Vl a_p1 p1 c_p1), (17, Vl a_p0 p0 c_p0), (18, Vi ((p0).length : Int)), (19, Vi 0)] (fun J => ?_)))
 refine c_block ?_
 obtain ⟨d5, hd5, h5⟩ := bind_some h
 obtain ⟨m5, hd5⟩ := loop_some hd5
 refine c_loop (loop_rule hmx (σ := Nat × Int) (fun s => match s with | (_, t19__s19_l5) => [(1, Vl a_p1 p1 c_p1), (17, Vl a_p0 p0 c_p0), (18, Vi ((p0).length : Int)), (19, Vi t19__s19_l5)]) (fun s w' => match s with | (m, t19__s19_l5) => loopN (assign_check_L5 p0) m t19__s19_l5 = some d5 ∧ Ev [] w w' ∧ MS w' [M] ∧ FR w.heap.size [] ∧ SlR (eInt .i64) w' (fl [M]) a_p1 c_p1 p1 ∧ SlR (eInt .i64) w' (fl [M]) a_p0 c_p0 p0) (fun s => s.1) (m5, 0) ⟨rfl, rfl, rfl, rfl, trivial⟩ ⟨hd5, hev, hms, hfr, hs_p1, hs_p0⟩ ?_)
 rintro ⟨m5, t19__s19_l5⟩ J wl5 ⟨hn5, hev, hms, hfr, hs_p1, hs_p0⟩
 rcases m5 with _ | m5
 · exact (loopN_zero hn5).elim
 obtain ⟨t5, h, hn5⟩ := bind_some hn5
 refine c_sp (x_u 1 [(20, .bool (decide (t19__s19_l5 < ((p0).length : Int))))] (x_ek (c_nm [(1, Vl a_p1 p1 c_p1), (17, Vl a_p0 p0 c_p0), (18, Vi ((p0).length : Int)), (19, Vi t19__s19_l5), (20, .bool (decide (t19__s19_l5 < ((p0).length : Int))))] (fun J => ?_))))
 refine c_seq (c_if (decide (t19__s19_l5 < ((p0).length : Int))) rfl h (fun h => ?_) (fun h => ?_))
 · refine c_skip (k_then (c_seq (c_block (c_sp ?_))))
   obtain ⟨x7, hx7, h⟩ := bind_some h
   obtain ⟨ad7, cs7, hr7, hc7, hR⟩ := reads_index (Mo := []) tsl22 hs_p0 hx7
   obtain rfl := hR
   refine x_indexAddr (xv := Vl a_p0 p0 c_p0) (yv := Vi t19__s19_l5) (.pointer (some ad7)) rfl rfl rfl rfl hr7 (x_load (xv := .pointer (some ad7)) (Vi x7) rfl rfl rfl (reads_cell0 tcell3 hc7 (fun _ h => by cases h)) ?_)
   refine x_u 1 [(6, Vi x7)] (x_ek (c_sp (x_u 3 [(23, Vi x7), (24, .bool (decide (x7 < 0))), (25, .bool (decide (x7 < 0)))] (x_if 25 (decide (x7 < 0)) rfl h (fun h => ?_) (fun h => ?_)))))
   · refine x_u 3 [(26, undef), (27, undef), (28, .bool true)] (x_ek (c_true rfl (c_sp (x_u 1 [(4, Vi 2)] (x_ek ?_)))))
     refine c_ret (k_block_ret (k_then_ret ?_))
     obtain rfl := some_inj h
     have hy := some_inj hn5
     subst hy
     replace h := h5
     refine k_then_ret (k_block_ret (k_then_ret (r_ret (r_vals [Vi 2] ⟨rfl, trivial⟩ ?_))))
     obtain rfl := some_inj h
     exact ⟨rfl, hev⟩
   refine x_u 3 [(26, Vi x7), (27, .bool (decide (x7 > 38400))), (28, .bool (decide (x7 > 38400)))] (x_ek (c_if (decide (x7 > 38400)) rfl h (fun h => ?_) (fun h => ?_)))
   · refine c_sp (x_u 1 [(4, Vi 2)] (x_ek (c_ret (k_block_ret (k_then_ret ?_)))))
     obtain rfl := some_inj h
     have hy := some_inj hn5
     subst hy
     replace h := h5
     refine k_then_ret (k_block_ret (k_then_ret (r_ret (r_vals [Vi 2] ⟨rfl, trivial⟩ ?_))))
     obtain rfl := some_inj h
     exact ⟨rfl, hev⟩
   refine c_skip (k_block (k_then (c_plain (x_u 2 [(29, Vi (IntKind.i64.wrap (t19__s19_l5 + 1))), (19, Vi (IntKind.i64.wrap (t19__s19_l5 + 1)))] (x_end rfl ?_)))))
   obtain rfl := some_inj h
   exact k_then ⟨(m5, IntKind.i64.wrap (t19__s19_l5 + 1)), ⟨rfl, rfl, rfl, rfl, trivial⟩, ⟨hn5, hev, hms, hfr, hs_p1, hs_p0⟩, Nat.lt_succ_self _⟩
 refine c_exit (k_then_exit ?_)
 obtain rfl := some_inj h
 have hy := some_inj hn5
 subst hy
 replace h := h5
 refine k_then_exit (k_block_in (k_then (c_nm [(1, Vl a_p1 p1 c_p1)] (fun J => ?_))))
 refine c_seq (c_sp (x_u 1 [(30, Vl a_p1 p1 c_p1)] (x_len (vs := [Vl a_p1 p1 c_p1]) (Vi ((p1).length : Int)) rfl rfl rfl (reads_len tsl22 _ _ _ _ _) (x_u 1 [(32, Vi 0)] (x_ek ?_)))))
 refine c_block ?_
 obtain ⟨d9, hd9, h9⟩ := bind_some h
 obtain ⟨m9, hd9⟩ := loop_some hd9
 refine c_loop (loop_rule hmx (σ := Nat × Int) (fun s => match s with | (_, t32__s32_l9) => [(30, Vl a_p1 p1 c_p1), (31, Vi ((p1).length : Int)), (32, Vi t32__s32_l9)]) (fun s w' => match s with | (m, t32__s32_l9) => loopN (assign_check_L9 p1) m t32__s32_l9 = some d9 ∧ Ev [] w w' ∧ MS w' [M] ∧ FR w.heap.size [] ∧ SlR (eInt .i64) w' (fl [M]) a_p1 c_p1 p1) (fun s => s.1) (m9, 0) ⟨rfl, rfl, rfl, trivial⟩ ⟨hd9, hev, hms, hfr, hs_p1⟩ ?_)
 rintro ⟨m9, t32__s32_l9⟩ J wl9 ⟨hn9, hev, hms, hfr, hs_p1⟩
 rcases m9 with _ | m9
 · exact (loopN_zero hn9).elim
 obtain ⟨t9, h, hn9⟩ := bind_some hn9
 refine c_sp (x_u 1 [(33, .bool (decide (t32__s32_l9 < ((p1).length : Int))))] (x_ek (c_nm [(30, Vl a_p1 p1 c_p1), (31, Vi ((p1).length : Int)), (32, Vi t32__s32_l9), (33, .bool (decide (t32__s32_l9 < ((p1).length : Int))))] (fun J => ?_))))
 refine c_seq (c_if (decide (t32__s32_l9 < ((p1).length : Int))) rfl h (fun h => ?_) (fun h => ?_))
 · refine c_skip (k_then (c_seq (c_block (c_sp ?_))))
   obtain ⟨x11, hx11, h⟩ := bind_some h
   obtain ⟨ad11, cs11, hr11, hc11, hR⟩ := reads_index (Mo := []) tsl22 hs_p1 hx11
   obtain rfl := hR
   refine x_indexAddr (xv := Vl a_p1 p1 c_p1) (yv := Vi t32__s32_l9) (.pointer (some ad11)) rfl rfl rfl rfl hr11 (x_load (xv := .pointer (some ad11)) (Vi x11) rfl rfl rfl (reads_cell0 tcell3 hc11 (fun _ h => by cases h)) ?_)
   refine x_u 1 [(8, Vi x11)] (x_ek (c_sp (x_u 3 [(36, Vi x11), (37, .bool (decide (x11 < 1))), (38, .bool (decide (x11 < 1)))] (x_if 38 (decide (x11 < 1)) rfl h (fun h => ?_) (fun h => ?_)))))
   · refine x_u 3 [(39, undef), (40, undef), (41, .bool true)] (x_ek (c_true rfl (c_sp (x_u 1 [(4, Vi 2)] (x_ek ?_)))))
     refine c_ret (k_block_ret (k_then_ret ?_))
     obtain rfl := some_inj h
     have hy := some_inj hn9
     subst hy
     replace h := h9
     refine k_then_ret (k_block_ret (k_then_ret (r_ret (r_vals [Vi 2] ⟨rfl, trivial⟩ ?_))))
     obtain rfl := some_inj h
     exact ⟨rfl, hev⟩
   refine x_u 3 [(39, Vi x11), (40, .bool (decide (x11 > 38400))), (41, .bool (decide (x11 > 38400)))] (x_ek (c_if (decide (x11 > 38400)) rfl h (fun h => ?_) (fun h => ?_)))
   · refine c_sp (x_u 1 [(4, Vi 2)] (x_ek (c_ret (k_block_ret (k_then_ret ?_)))))
     obtain rfl := some_inj h
     have hy := some_inj hn9
     subst hy
     replace h := h9
     refine k_then_ret (k_block_ret (k_then_ret (r_ret (r_vals [Vi 2] ⟨rfl, trivial⟩ ?_))))
     obtain rfl := some_inj h
     exact ⟨rfl, hev⟩
   refine c_skip (k_block (k_then (c_plain (x_u 2 [(42, Vi (IntKind.i64.wrap (t32__s32_l9 + 1))), (32, Vi (IntKind.i64.wrap (t32__s32_l9 + 1)))] (x_end rfl ?_)))))
   obtain rfl := some_inj h
   exact k_then ⟨(m9, IntKind.i64.wrap (t32__s32_l9 + 1)), ⟨rfl, rfl, rfl, trivial⟩, ⟨hn9, hev, hms, hfr, hs_p1⟩, Nat.lt_succ_self _⟩
 refine c_exit (k_then_exit ?_)
 obtain rfl := some_inj h
 have hy := some_inj hn9
 subst hy
 replace h := h9
 refine k_then_exit (k_block_in (k_then (c_norm [] trivial (fun J => ?_))))
 refine c_sp (x_u 1 [(4, Vi 0)] (x_ek (c_ret (r_ret (r_vals [Vi 0] ⟨rfl, trivial⟩ ?_)))))
 obtain rfl := some_inj h
 exact ⟨rfl, hev⟩
def assign_order_L5 (p0 : List Int) (s : (List Int) × Int) : Option (Step ((List Int) × Int) (List Int)) :=
match s with
| (d7_l5, t8__s8_l5) =>
(if (decide (t8__s8_l5 < ((p0).length : Int))) = true then
((idx p0 t8__s8_l5).bind fun x11 =>
(if (decide (x11 > 0)) = true then
(if d7_l5.length + ([t8__s8_l5]).length ≤ 4294967296 then
some (.next ((d7_l5 ++ [t8__s8_l5]), IntKind.i64.wrap (t8__s8_l5 + 1)))
else none)
else
some (.next (d7_l5, IntKind.i64.wrap (t8__s8_l5 + 1)))))
else
some (.done d7_l5))
def assign_order (p0 : List Int) : Option (List Int) :=
((loop (assign_order_L5 p0) (([] : List Int), 0)).bind fun d => match d with
| d7_x5 => ((slices_SortStableFunc_int_int_ d7_x5 p0).bind fun x16 =>
(if x16.length = d7_x5.length then
some x16
else none)))
theorem assign_order_w (a_p0 : Option Addr) (c_p0 : Nat) (p0 : List Int) (r : (List Int)) (w : World) (M : List Nat) (hms : MS w [M]) (hs_p0 : SlR (eInt .i64) w (fl [M]) a_p0 c_p0 p0) (h : assign_order p0 = some r) : CallVC Tryz.prog 117 [.slice a_p0 (p0).length c_p0] w fun v w' => ∃ (a0' : Option Addr), ∃ (c0' : Nat), v = .slice a0' (r).length c0' ∧ Ev [] w w' ∧ MS w' [blk a0', M] ∧ FR w.heap.size [blk a0'] ∧ OwnS (eInt .i64) 3 w' (fl [blk a0', M]) a0' c0' r := by
 refine calls_vc hmx Tryz.func117 (by kernel_rfl) rfl (rs := [.tmp 2]) rfl (by kernel_rfl) (args := [.slice a_p0 (p0).length c_p0]) rfl ?_
 have hev : Ev [] w w := Ev.refl _ _
 have hfr : FR w.heap.size [] := FR.nil _
 refine c_sp (x_box (xv := .slice a_p0 (p0).length c_p0) rfl rfl rfl (fun b2 w2 hq2 hb2 he2 hz2 => ?_))
 replace hb2 : w2.heap[b2]? = some (.cells #[.slice a_p0 (p0).length c_p0] 22 (0, 0)) := hb2
 refine inl1 ?_
 have hst := Stp.box (ls := [M]) he2 hq2
 replace hs_p0 := hs_p0.step hst
 replace hms := hms.box he2 hq2 hb2
 replace hfr := hfr.box hev.size hq2
 replace hev := hev.ext he2
 refine x_u 1 [(2, .slice none 0 0)] (x_ek (c_sp (x_u 1 [(3, .slice none 0 0)] (x_ek (c_seq ?_)))))
 refine c_sp (x_load (xv := Vp b2 0) (.slice a_p0 (p0).length c_p0) rfl rfl rfl (reads_box tcell22 hb2 nn 0 _ rfl) (x_len (vs := [.slice a_p0 (p0).length c_p0]) (Vi ((p0).length : Int)) rfl rfl rfl (reads_len tsl22 _ _ _ _ _) (x_u 1 [(8, Vi 0)] (x_ek (c_block ?_)))))
 have hst := Stp.push (ls := [[b2], M]) (l := blk none) (Ev.refl [] w2) (fun _ h => by cases h) (fun _ h => by cases h)
 replace hs_p0 := hs_p0.step hst
 replace hb2 := (Ev.refl [] _).box hb2 nn
 replace hms := hms.push (l := blk none) (Ev.refl [] _) (fun _ h => by cases h)
 replace hfr := hfr.push (l := blk none) (fun _ h => by cases h)
 have ho6 := OwnS.nil (eInt .i64) 3 w2 (fl [blk none, [b2], M])
 have hpk := hms.pick [some 1, some 0, some 2] [[b2], blk none, M] rfl
 have hsu := pick_sub (ls := [blk none, [b2], M]) [some 1, some 0, some 2] [[b2], blk none, M] rfl
 replace hs_p0 := hs_p0.sub hsu
 replace ho6 := ho6.sub hsu
 replace hms := hpk
 replace hfr := hfr.pick [some 1, some 0] [[b2], blk none] rfl
 clear hpk hsu
 obtain ⟨d5, hd5, h5⟩ := bind_some h
 obtain ⟨m5, hd5⟩ := loop_some hd5
 refine c_loop (loop_rule hmx (σ := Nat × (List Int) × Int × Option Addr × Nat) (fun s => match s with | (_, d7_l5, t8__s8_l5, a7_l5, c7_l5) => [(1, Vp b2 0), (3, .slice a7_l5 (d7_l5).length c7_l5), (6, .slice a_p0 (p0).length c_p0), (7, Vi ((p0).length : Int)), (8, Vi t8__s8_l5)]) (fun s w' => match s with | (m, d7_l5, t8__s8_l5, a7_l5, c7_l5) => loopN (assign_order_L5 p0) m (d7_l5, t8__s8_l5) = some d5 ∧ Ev [] w w' ∧ MS w' [[b2], blk a7_l5, M] ∧ FR w.heap.size [[b2], blk a7_l5] ∧ SlR (eInt .i64) w' (fl [[b2], blk a7_l5, M]) a_p0 c_p0 p0 ∧ w'.heap[b2]? = some (.cells #[.slice a_p0 (p0).length c_p0] 22 (0, 0)) ∧ OwnS (eInt .i64) 3 w' (fl [[b2], blk a7_l5, M]) a7_l5 c7_l5 d7_l5) (fun s => s.1) (m5, ([] : List Int), 0, none, 0) ⟨rfl, rfl, rfl, rfl, rfl, trivial⟩ ⟨hd5, hev, hms, hfr, hs_p0, hb2, ho6⟩ ?_)
 rintro ⟨m5, d7_l5, t8__s8_l5, a7_l5, c7_l5⟩ J wl5 ⟨hn5, hev, hms, hfr, hs_p0, hb2, hj7_l5⟩
 rcases m5 with _ | m5
 · exact (loopN_zero hn5).elim
 obtain ⟨t5, h, hn5⟩ := bind_some hn5
 refine c_sp (x_u 1 [(9, .bool (decide (t8__s8_l5 < ((p0).length : Int))))] (x_ek (c_nm [(1, Vp b2 0), (3, .slice a7_l5 (d7_l5).length c7_l5), (6, .slice a_p0 (p0).length c_p0), (7, Vi ((p0).length : Int)), (8, Vi t8__s8_l5), (9, .bool (decide (t8__s8_l5 < ((p0).length : Int))))] (fun J => ?_))))
 refine c_seq (c_if (decide (t8__s8_l5 < ((p0).length : Int))) rfl h (fun h => ?_) (fun h => ?_))
 · refine c_skip (k_then (c_seq (c_block (c_sp (x_u 1 [(10, Vi t8__s8_l5)] ?_)))))
   obtain ⟨x11, hx11, h⟩ := bind_some h
   obtain ⟨ad11, cs11, hr11, hc11, hR⟩ := reads_index (Mo := []) tsl22 hs_p0 hx11
   obtain rfl := hR
   refine x_indexAddr (xv := .slice a_p0 (p0).length c_p0) (yv := Vi t8__s8_l5) (.pointer (some ad11)) rfl rfl rfl rfl hr11 (x_load (xv := .pointer (some ad11)) (Vi x11) rfl rfl rfl (reads_cell0 tcell3 hc11 (fun _ h => by cases h)) ?_)
   refine x_u 2 [(4, Vi t8__s8_l5), (5, Vi x11)] (x_ek (c_sp (x_u 2 [(13, Vi x11), (14, .bool (decide (x11 > 0)))] (x_ek (c_if (decide (x11 > 0)) rfl h (fun h => ?_) (fun h => ?_))))))
   · refine c_plain (x_u 2 [(15, .slice a7_l5 (d7_l5).length c7_l5), (16, Vi t8__s8_l5)] (x_buildSlice (vs := [(0, Vi t8__s8_l5)]) #[Vi t8__s8_l5] 3 rfl rfl rfl (by kernel_rfl) (fun b13 w13 hq13 hb13 he13 hz13 => ?_)))
     refine inl1 ?_
     have hms0 := hms
     have hst := Stp.ext (ls := [[b2], blk a7_l5, M]) he13
     replace hb2 := he13.box hb2 nn
     replace hs_p0 := hs_p0.step hst
     replace hj7_l5 := hj7_l5.step hst he13 nn2
     replace hms := hms.ev he13
     replace hev := hev.ext he13
     have hs13 : SlR (eInt .i64) w13 (fl [[b2], blk a7_l5, M]) (Ad b13 0) 1 ([t8__s8_l5]) := ro_of_box hms0 hq13 hb13 rfl rfl (cells_at (cs := [Vi t8__s8_l5]) (CellsOf.cons (c := [Vi t8__s8_l5]) rfl CellsOf.nil))
     clear hb13 hms0
     have hg := guard_l h
     replace h := guard_r h
     obtain ⟨a15, c15, w15, hr15, he15, hn15, hm15, hw15⟩ := own_appendN tel22 22 hj7_l5 (mem_flat 1 rfl) hs13 hg
     refine x_builtin (vs := [.slice a7_l5 (d7_l5).length c7_l5, .slice (Ad b13 0) ([t8__s8_l5]).length 1]) _ w15 rfl rfl rfl rfl (run_value _ _ _ _ hr15) (inl1 ?_)
     have hst : Stp (fl [[b2], blk a7_l5, M]) w13 (fl [[b2], blk a15, M]) w15 := Stp.upd 1 he15 rfl (fun b hb => (hn15 b hb).1)
     replace hb2 := he15.box hb2 (hms.apart 0 1 rfl rfl rfl _ mem1)
     replace hs_p0 := hs_p0.step hst
     replace hms : MS w15 [[b2], blk a15, M] := hms.upd 1 he15 rfl hn15
     have hfr2 : FR w.heap.size [[b2], blk a15] := hfr.upd 1 rfl hev.size (fun b hb => (hn15 b hb).1)
     replace hev := hev.then he15 (fun b hb => .inr (hfr.at 1 rfl b hb))
     replace hfr := hfr2
     clear hfr2
     replace hj7_l5 := hw15 (fl [[b2], blk a15, M]) hst.new
     clear hw15
     refine x_u 1 [(3, .slice a15 ((d7_l5 ++ [t8__s8_l5])).length c15)] (x_end rfl (k_block (k_then (c_nm [(1, Vp b2 0), (3, .slice a15 ((d7_l5 ++ [t8__s8_l5])).length c15), (6, .slice a_p0 (p0).length c_p0), (7, Vi ((p0).length : Int)), (8, Vi t8__s8_l5)] (fun J => ?_)))))
     refine c_plain (x_u 2 [(19, Vi (IntKind.i64.wrap (t8__s8_l5 + 1))), (8, Vi (IntKind.i64.wrap (t8__s8_l5 + 1)))] (x_end rfl ?_))
     obtain rfl := some_inj h
     exact k_then ⟨(m5, (d7_l5 ++ [t8__s8_l5]), IntKind.i64.wrap (t8__s8_l5 + 1), a15, c15), ⟨rfl, rfl, rfl, rfl, rfl, trivial⟩, ⟨hn5, hev, hms, hfr, hs_p0, hb2, hj7_l5⟩, Nat.lt_succ_self _⟩
   refine c_skip (k_block (k_then (c_plain (x_u 2 [(19, Vi (IntKind.i64.wrap (t8__s8_l5 + 1))), (8, Vi (IntKind.i64.wrap (t8__s8_l5 + 1)))] (x_end rfl ?_)))))
   obtain rfl := some_inj h
   exact k_then ⟨(m5, d7_l5, IntKind.i64.wrap (t8__s8_l5 + 1), a7_l5, c7_l5), ⟨rfl, rfl, rfl, rfl, rfl, trivial⟩, ⟨hn5, hev, hms, hfr, hs_p0, hb2, hj7_l5⟩, Nat.lt_succ_self _⟩
 refine c_exit (k_then_exit ?_)
 obtain rfl := some_inj h
 have hy := some_inj hn5
 subst hy
 replace h := h5
 refine k_then_exit (k_block_in (k_then (c_nm [(1, Vp b2 0), (3, .slice a7_l5 (d7_l5).length c7_l5)] (fun J => ?_))))
 refine c_sp (x_u 1 [(20, .slice a7_l5 (d7_l5).length c7_l5)] (x_makeFunc 132 #[] #[Vp b2 0] rfl rfl rfl rfl ?_))
 obtain ⟨x16, hx, h⟩ := bind_some h
 have hpk : MS wl5 ([blk a7_l5, [b2]] ++ [M]) := hms.pick [some 1, some 0, some 2] _ rfl
 have hsb0 : ∀ x ∈ fl ([blk a7_l5, [b2]] ++ [M]), x ∈ fl [[b2], blk a7_l5, M] := pick_sub [some 1, some 0, some 2] _ rfl
 have hsb : ∀ x ∈ fl ([blk a7_l5, [b2]] ++ [(fl [M])]), x ∈ fl [[b2], blk a7_l5, M] := fun x hx => hsb0 x (fl_unfold x hx)
 have hcall := slices_SortStableFunc_int_int__w a7_l5 c7_l5 d7_l5 b2 a_p0 c_p0 p0 _ wl5 (fl [M]) (hpk.fold (P := [blk a7_l5, [b2]])) (hj7_l5.sub hsb) (hs_p0.sub hsb) hb2 hx
 refine x_call 131 #[] #[] [.slice a7_l5 (d7_l5).length c7_l5, (.func (.func 132) #[] #[Vp b2 0])] _ rfl rfl rfl rfl hcall ?_
 rintro v w17 ⟨rfl, he17, hp17_0, hp17_1, hmn17, hfn17, hnp17⟩
 clear hcall hx
 refine inl1 ?_
 have hpk2 : MS wl5 ([blk a7_l5, [b2]] ++ [M]) := hms.pick [some 1, some 0, some 2] _ rfl
 replace hms : MS w17 [[b2], blk a7_l5, M] := (MS.call (P := [blk a7_l5, [b2]]) (R := [M]) (res := []) (par := [blk a7_l5, [b2]]) hpk2 he17 hmn17 hfn17 hnp17).pick [some 1, some 0, some 2] _ rfl
 have hPf : ∀ b ∈ fl [blk a7_l5, [b2]], w.heap.size ≤ b := FR.mem (ls := [blk a7_l5, [b2]]) (hfr.pick [some 1, some 0] _ rfl)
 have hfr2 : FR w.heap.size [[b2], blk a7_l5] := (FR.cons (fun b hb => (hnp17.at 1 rfl b hb).elim (fun h => hPf b h) (fun h => Nat.le_trans hev.size h)) (FR.cons (fun b hb => (hnp17.at 0 rfl b hb).elim (fun h => hPf b h) (fun h => Nat.le_trans hev.size h)) (FR.nil _)))
 replace hev := hev.then he17 (fun b hb => .inr (hPf b hb))
 replace hfr := hfr2
 clear hfr2
 replace hj7_l5 := OwnS.plain (M' := fl [[b2], blk a7_l5, M]) (plain_int _) hp17_0
 clear hpk hsb hsb0 hpk2 hst
 have hgl := guard_l h
 replace h := guard_r h
 have hsl : (Value.slice a7_l5 (d7_l5).length c7_l5) = (Value.slice a7_l5 (x16).length c7_l5) := by first | (rw [hgl]; done) | simp only [hgl]
 try rw [hsl]
 clear hsl
 refine x_ek (c_sp (x_u 2 [(23, .slice a7_l5 (x16).length c7_l5), (2, .slice a7_l5 (x16).length c7_l5)] (x_ek (c_ret (r_ret (r_vals [.slice a7_l5 (x16).length c7_l5] ⟨rfl, trivial⟩ ?_))))))
 obtain rfl := some_inj h
 have hmr := hms.pick [some 1, some 2] [blk a7_l5, M] rfl
 have hsu := pick_sub (ls := [[b2], blk a7_l5, M]) [some 1, some 2] [blk a7_l5, M] rfl
 have hfe := hfr.pick [some 1] [blk a7_l5] rfl
 exact ⟨a7_l5, c7_l5, rfl, hev, hmr, hfe, hj7_l5.sub hsu⟩
def assign_Match_L23 (p0 : List Int) (p1 : List Int) (d14_l18 : List Bool) (x20 : Int) (s : Int × Int) : Option (Step (Int × Int) Int) :=
match s with
| (best_s13_l23, t48__s48_l23) =>
(if (decide (t48__s48_l23 < ((p1).length : Int))) = true then
((idx p1 t48__s48_l23).bind fun x25 =>
((idx d14_l18 t48__s48_l23).bind fun x27 =>
(if (!x27) = true then
((idx p0 x20).bind fun x29 =>
(if (decide (x25 ≥ x29)) = true then
(if (decide (best_s13_l23 < 0)) = true then
some (.next (t48__s48_l23, IntKind.i64.wrap (t48__s48_l23 + 1)))
else
((idx p1 best_s13_l23).bind fun x31 =>
(if (decide (x25 < x31)) = true then
some (.next (t48__s48_l23, IntKind.i64.wrap (t48__s48_l23 + 1)))
else
some (.next (best_s13_l23, IntKind.i64.wrap (t48__s48_l23 + 1))))))
else
some (.next (best_s13_l23, IntKind.i64.wrap (t48__s48_l23 + 1)))))
else
some (.next (best_s13_l23, IntKind.i64.wrap (t48__s48_l23 + 1))))))
else
some (.done best_s13_l23))
def assign_Match_L18 (p0 : List Int) (p1 : List Int) (x15 : (List Int)) (s : (List Int) × (List Bool) × Int) : Option (Step ((List Int) × (List Bool) × Int) ((List Int) ⊕ (List Int))) :=
match s with
| (d7_l18, d14_l18, t41__s41_l18) =>
(if (decide (t41__s41_l18 < ((x15).length : Int))) = true then
((idx x15 t41__s41_l18).bind fun x20 =>
((loop (assign_Match_L23 p0 p1 d14_l18 x20) ((-1), 0)).bind fun d => match d with
| best_s13_x23 => (if (decide (best_s13_x23 < 0)) = true then
(if 0 ≤ (0 : Int) ∧ (0 : Int) ≤ IntKind.i64.wrap (t41__s41_l18 + 1) ∧ IntKind.i64.wrap (t41__s41_l18 + 1) ≤ (x15.length : Int) then
((slices_Clone_int_int_ ((x15.drop (Int.toNat (0 : Int))).take (Int.toNat (IntKind.i64.wrap (t41__s41_l18 + 1)) - Int.toNat (0 : Int)))).bind fun x35 =>
(if x35 ≠ [] ∧ x35.length ≤ 4294967296 then
some (.done (.inl (sortI x35)))
else none))
else none)
else
((idx d14_l18 best_s13_x23).bind fun x39 =>
((idx d7_l18 x20).bind fun x42 =>
some (.next ((d7_l18.set (Int.toNat x20) best_s13_x23), (d14_l18.set (Int.toNat best_s13_x23) true), IntKind.i64.wrap (t41__s41_l18 + 1))))))))
else
some (.done (.inr d7_l18)))
def assign_Match_L9 (p0 : List Int) (s : (List Int) × Int) : Option (Step ((List Int) × Int) (List Int)) :=
match s with
| (d7_l9, t27__s27_l9) =>
(if (decide (t27__s27_l9 < (((List.replicate (Int.toNat ((p0).length : Int)) 0 : List Int)).length : Int))) = true then
((idx d7_l9 t27__s27_l9).bind fun x10 =>
some (.next ((d7_l9.set (Int.toNat t27__s27_l9) (-1)), IntKind.i64.wrap (t27__s27_l9 + 1))))
else
some (.done d7_l9))
def assign_Match (p0 : List Int) (p1 : List Int) : Option ((List Int) × (List Int) × Int) :=
((assign_check p0 p1).bind fun x4 =>
(if (x4 != 0) = true then
some ([], [], x4)
else
(if (0 : Int) ≤ ((p0).length : Int) ∧ (((p0).length : Int) : Int) ≤ 4294967296 then
((loop (assign_Match_L9 p0) ((List.replicate (Int.toNat ((p0).length : Int)) 0 : List Int), 0)).bind fun d => match d with
| d7_x9 => (if (0 : Int) ≤ ((p1).length : Int) ∧ (((p1).length : Int) : Int) ≤ 4294967296 then
((assign_order p0).bind fun x15 =>
((loop (assign_Match_L18 p0 p1 x15) (d7_x9, (List.replicate (Int.toNat ((p1).length : Int)) false : List Bool), 0)).bind fun d => match d with
| (.inl d37_x1800) => some ([], d37_x1800, 14)
| (.inr d7_x1801) => some (d7_x1801, [], 0)))
else none))
else none)))
theorem assign_Match_w (a_p0 : Option Addr) (c_p0 : Nat) (p0 : List Int) (a_p1 : Option Addr) (c_p1 : Nat) (p1 : List Int) (r : (List Int) × (List Int) × Int) (w : World) (M : List Nat) (hms : MS w [M]) (hs_p0 : SlR (eInt .i64) w (fl [M]) a_p0 c_p0 p0) (hs_p1 : SlR (eInt .i64) w (fl [M]) a_p1 c_p1 p1) (h : assign_Match p0 p1 = some r) : CallVC Tryz.prog 88 [.slice a_p0 (p0).length c_p0, .slice a_p1 (p1).length c_p1] w fun v w' => ∃ (a0' : Option Addr), ∃ (c0' : Nat), ∃ (a2' : Option Addr), ∃ (c2' : Nat), v = .tuple #[.slice a0' (r.1).length c0', .slice a2' (r.2.1).length c2', Vi r.2.2] ∧ Ev [] w w' ∧ MS w' [blk a0', blk a2', M] ∧ FR w.heap.size [blk a0', blk a2'] ∧ OwnS (eInt .i64) 3 w' (fl [blk a0', blk a2', M]) a0' c0' r.1 ∧ OwnS (eInt .i64) 3 w' (fl [blk a0', blk a2', M]) a2' c2' r.2.1 := by
 refine calls_vc hmx Tryz.func88 (by kernel_rfl) rfl (rs := [.tmp 4, .tmp 5, .tmp 6]) rfl (by kernel_rfl) (args := [.slice a_p0 (p0).length c_p0, .slice a_p1 (p1).length c_p1]) rfl ?_
 have hev : Ev [] w w := Ev.refl _ _
 have hfr : FR w.heap.size [] := FR.nil _
 refine c_sp (x_u 3 [(4, .slice none 0 0), (5, .slice none 0 0), (6, Vi 0)] (x_ek (c_seq (c_sp (x_u 2 [(16, .slice a_p0 (p0).length c_p0), (17, .slice a_p1 (p1).length c_p1)] ?_)))))
 obtain ⟨x4, hx, h⟩ := bind_some h
 have hcall := assign_check_w a_p0 c_p0 p0 a_p1 c_p1 p1 _ w (fl [M]) (MS.fold (P := []) hms) (hs_p0.sub fl1) (hs_p1.sub fl1) hx
 refine x_call 71 #[] #[] [.slice a_p0 (p0).length c_p0, .slice a_p1 (p1).length c_p1] _ rfl rfl rfl rfl hcall ?_
 rintro v w5 ⟨rfl, he5⟩
 clear hcall hx
 refine inl1 ?_
 have hst := Stp.ext (ls := [M]) he5
 replace hs_p0 := hs_p0.step hst
 replace hs_p1 := hs_p1.step hst
 replace hms := hms.ev he5
 replace hev := hev.ext he5
 refine x_u 1 [(7, Vi x4)] (x_ek (c_sp (x_u 2 [(19, Vi x4), (20, .bool (x4 != 0))] (x_ek (c_if (x4 != 0) rfl h (fun h => ?_) (fun h => ?_))))))
 · refine c_sp (x_u 4 [(21, Vi x4), (4, .slice none 0 0), (5, .slice none 0 0), (6, Vi x4)] (x_ek (c_nm [(4, .slice none 0 0), (5, .slice none 0 0), (6, Vi x4)] (fun J => ?_))))
   refine c_ret (k_then_ret (r_ret (r_vals [.slice none 0 0, .slice none 0 0, Vi x4] ⟨rfl, rfl, rfl, trivial⟩ ?_)))
   obtain rfl := some_inj h
   have hmr := hms.pick [none, none, some 0] [blk none, blk none, M] rfl
   have hfe := hfr.pick [none, none] [blk none, blk none] rfl
   exact ⟨none, 0, none, 0, rfl, hev, hmr, hfe, OwnS.nil _ _ _ _, OwnS.nil _ _ _ _⟩
 refine c_skip (k_then (c_sp (x_u 1 [(22, .slice a_p0 (p0).length c_p0)] (x_len (vs := [.slice a_p0 (p0).length c_p0]) (Vi ((p0).length : Int)) rfl rfl rfl (reads_len tsl22 _ _ _ _ _) ?_))))
 have hg := guard_l h
 replace h := guard_r h
 obtain ⟨a6, c6, w6, hr6, he6, hn6, hw6⟩ := own_make (e := (eInt .i64)) tel22 w5 ((p0).length : Int) hg.1 hg.2 0 (fun _ _ => rfl)
 refine x_makeSlice _ w6 (xv := Vi ((p0).length : Int)) (yv := Vi ((p0).length : Int)) rfl rfl rfl rfl hr6 (inl1 ?_)
 have hst := Stp.push (ls := [M]) (l := blk a6) he6 (fun _ h => by cases h) (fun b hb => (hn6 b hb).1)
 replace hs_p0 := hs_p0.step hst
 replace hs_p1 := hs_p1.step hst
 replace hms := hms.push he6 hn6
 replace hfr := hfr.push (fun b hb => Nat.le_trans hev.size (hn6 b hb).1)
 replace hev := hev.ext he6
 have ho6 := hw6 (fl [blk a6, M])
 clear hw6
 refine x_u 1 [(4, .slice a6 ((List.replicate (Int.toNat ((p0).length : Int)) 0 : List Int)).length c6)] (x_ek (c_nm [(0, .slice a_p0 (p0).length c_p0), (1, .slice a_p1 (p1).length c_p1), (4, .slice a6 ((List.replicate (Int.toNat ((p0).length : Int)) 0 : List Int)).length c6)] (fun J => ?_)))
 refine c_seq (c_sp (x_u 1 [(25, .slice a6 ((List.replicate (Int.toNat ((p0).length : Int)) 0 : List Int)).length c6)] (x_len (vs := [.slice a6 ((List.replicate (Int.toNat ((p0).length : Int)) 0 : List Int)).length c6]) (Vi (((List.replicate (Int.toNat ((p0).length : Int)) 0 : List Int)).length : Int)) rfl rfl rfl (reads_len tsl22 _ _ _ _ _) (x_u 1 [(27, Vi 0)] (x_ek ?_)))))
 refine c_block ?_
 obtain ⟨d9, hd9, h9⟩ := bind_some h
 obtain ⟨m9, hd9⟩ := loop_some hd9
 refine c_loop (loop_rule hmx (σ := Nat × (List Int) × Int) (fun s => match s with | (_, d7_l9, t27__s27_l9) => [(0, .slice a_p0 (p0).length c_p0), (1, .slice a_p1 (p1).length c_p1), (4, .slice a6 (d7_l9).length c6), (26, Vi (((List.replicate (Int.toNat ((p0).length : Int)) 0 : List Int)).length : Int)), (27, Vi t27__s27_l9)]) (fun s w' => match s with | (m, d7_l9, t27__s27_l9) => loopN (assign_Match_L9 p0) m (d7_l9, t27__s27_l9) = some d9 ∧ Ev [] w w' ∧ MS w' [blk a6, M] ∧ FR w.heap.size [blk a6] ∧ SlR (eInt .i64) w' (fl [blk a6, M]) a_p0 c_p0 p0 ∧ SlR (eInt .i64) w' (fl [blk a6, M]) a_p1 c_p1 p1 ∧ OwnS (eInt .i64) 3 w' (fl [blk a6, M]) a6 c6 d7_l9) (fun s => s.1) (m9, (List.replicate (Int.toNat ((p0).length : Int)) 0 : List Int), 0) ⟨rfl, rfl, rfl, rfl, rfl, trivial⟩ ⟨hd9, hev, hms, hfr, hs_p0, hs_p1, ho6⟩ ?_)
 rintro ⟨m9, d7_l9, t27__s27_l9⟩ J wl9 ⟨hn9, hev, hms, hfr, hs_p0, hs_p1, ho6⟩
 rcases m9 with _ | m9
 · exact (loopN_zero hn9).elim
 obtain ⟨t9, h, hn9⟩ := bind_some hn9
 refine c_sp (x_u 1 [(28, .bool (decide (t27__s27_l9 < (((List.replicate (Int.toNat ((p0).length : Int)) 0 : List Int)).length : Int))))] (x_ek (c_nm [(0, .slice a_p0 (p0).length c_p0), (1, .slice a_p1 (p1).length c_p1), (4, .slice a6 (d7_l9).length c6), (26, Vi (((List.replicate (Int.toNat ((p0).length : Int)) 0 : List Int)).length : Int)), (27, Vi t27__s27_l9), (28, .bool (decide (t27__s27_l9 < (((List.replicate (Int.toNat ((p0).length : Int)) 0 : List Int)).length : Int))))] (fun J => ?_))))
 refine c_seq (c_if (decide (t27__s27_l9 < (((List.replicate (Int.toNat ((p0).length : Int)) 0 : List Int)).length : Int))) rfl h (fun h => ?_) (fun h => ?_))
 · refine c_skip (k_then (c_seq (c_block (c_sp (x_u 2 [(29, Vi t27__s27_l9), (8, Vi t27__s27_l9)] ?_)))))
   refine x_ek (c_plain (x_u 2 [(30, .slice a6 (d7_l9).length c6), (31, Vi t27__s27_l9)] ?_))
   obtain ⟨x10, hx10, h⟩ := bind_some h
   obtain ⟨g10, cs10, ha10, hr10, hc10, hR⟩ := own_index (Mo := []) tsl22 ho6 hx10
   obtain rfl := hR
   refine x_indexAddr (xv := .slice a6 (d7_l9).length c6) (yv := Vi t27__s27_l9) (.pointer (some ⟨g10, (Int.toNat t27__s27_l9) * (eInt .i64).n, none⟩)) rfl rfl rfl rfl hr10 ?_
   obtain ⟨w12, hr12, he12, ho12⟩ := own_storeE ha10 (y := (-1)) 0 (Vi (-1)) tcell3 ho6 (mem_flat 0 rfl) hx10 rfl rfl (fun _ _ _ hR => set_int hR)
   refine x_store w12 (xv := .pointer (some ⟨g10, (Int.toNat t27__s27_l9) * (eInt .i64).n, none⟩)) (yv := Vi (-1)) rfl rfl rfl rfl hr12 (inl1 ?_)
   have hst := Stp.ev' (ls := [blk a6, M]) he12 (mem_flat 0 rfl)
   replace hs_p0 := hs_p0.step hst
   replace hs_p1 := hs_p1.step hst
   replace hms := hms.ev he12
   replace hev := hev.then he12 (fun b hb => .inr (hfr.at 0 rfl b hb))
   replace ho6 := ho12
   have hsl : (Value.slice a6 (d7_l9).length c6) = (Value.slice a6 ((d7_l9.set (Int.toNat t27__s27_l9) (-1))).length c6) := by first | (rw [List.length_set]; done) | simp only [List.length_set]
   try rw [hsl]
   clear hsl
   refine x_end rfl (k_block (k_then (c_plain (x_u 2 [(33, Vi (IntKind.i64.wrap (t27__s27_l9 + 1))), (27, Vi (IntKind.i64.wrap (t27__s27_l9 + 1)))] (x_end rfl ?_)))))
   obtain rfl := some_inj h
   exact k_then ⟨(m9, (d7_l9.set (Int.toNat t27__s27_l9) (-1)), IntKind.i64.wrap (t27__s27_l9 + 1)), ⟨rfl, rfl, rfl, rfl, rfl, trivial⟩, ⟨hn9, hev, hms, hfr, hs_p0, hs_p1, ho6⟩, Nat.lt_succ_self _⟩
 refine c_exit (k_then_exit ?_)
 obtain rfl := some_inj h
 have hy := some_inj hn9
 subst hy
 replace h := h9
 refine k_then_exit (k_block_in (k_then (c_nm [(0, .slice a_p0 (p0).length c_p0), (1, .slice a_p1 (p1).length c_p1), (4, .slice a6 (d7_l9).length c6)] (fun J => ?_))))
 refine c_sp (x_u 1 [(34, .slice a_p1 (p1).length c_p1)] (x_len (vs := [.slice a_p1 (p1).length c_p1]) (Vi ((p1).length : Int)) rfl rfl rfl (reads_len tsl22 _ _ _ _ _) ?_))
 have hg := guard_l h
 replace h := guard_r h
 obtain ⟨a13, c13, w13, hr13, he13, hn13, hw13⟩ := own_make (e := eBool) tel111 wl9 ((p1).length : Int) hg.1 hg.2 false (fun _ _ => rfl)
 refine x_makeSlice _ w13 (xv := Vi ((p1).length : Int)) (yv := Vi ((p1).length : Int)) rfl rfl rfl rfl hr13 (inl1 ?_)
 have hst := Stp.push (ls := [blk a6, M]) (l := blk a13) he13 (fun _ h => by cases h) (fun b hb => (hn13 b hb).1)
 replace hs_p0 := hs_p0.step hst
 replace hs_p1 := hs_p1.step hst
 replace ho6 := ho6.step hst he13 nn2
 replace hms := hms.push he13 hn13
 replace hfr := hfr.push (fun b hb => Nat.le_trans hev.size (hn13 b hb).1)
 replace hev := hev.ext he13
 have ho13 := hw13 (fl [blk a13, blk a6, M])
 clear hw13
 refine x_u 1 [(9, .slice a13 ((List.replicate (Int.toNat ((p1).length : Int)) false : List Bool)).length c13)] (x_ek (c_sp (x_u 1 [(37, .slice a_p0 (p0).length c_p0)] ?_)))
 obtain ⟨x15, hx, h⟩ := bind_some h
 have hcall := assign_order_w a_p0 c_p0 p0 _ w13 (fl [blk a13, blk a6, M]) (MS.fold (P := []) hms) (hs_p0.sub fl1) hx
 refine x_call 117 #[] #[] [.slice a_p0 (p0).length c_p0] _ rfl rfl rfl rfl hcall ?_
 rintro v w16 ⟨a0_16, c0_16, rfl, he16, hmn16, hfn16, hf16_1⟩
 clear hcall hx
 refine inl1 ?_
 have hst := Stp.call0 [blk a13, blk a6, M] [blk a0_16] [blk a0_16, blk a13, blk a6, M] he16 hfn16 rfl
 replace hs_p0 := hs_p0.step hst
 replace hs_p1 := hs_p1.step hst
 replace ho6 := ho6.step hst he16 nn2
 replace ho13 := ho13.step hst he16 nn2
 replace hms := MS.call0 [blk a0_16] [blk a0_16, blk a13, blk a6, M] hms he16 hmn16 hfn16 rfl
 have hfr2 := FR.call0 [blk a0_16, blk a13, blk a6] hev.size hfn16 hfr rfl
 replace hev := hev.ext he16
 replace hfr := hfr2
 clear hfr2
 replace hf16_1 := OwnS.plain (M' := fl [blk a0_16, blk a13, blk a6, M]) (plain_int _) hf16_1
 clear hst
 refine x_u 1 [(10, .slice a0_16 (x15).length c0_16)] (x_ek (c_seq (c_sp (x_u 1 [(39, .slice a0_16 (x15).length c0_16)] (x_len (vs := [.slice a0_16 (x15).length c0_16]) (Vi ((x15).length : Int)) rfl rfl rfl (reads_len tsl22 _ _ _ _ _) ?_)))))
 refine x_u 1 [(41, Vi 0)] (x_ek (c_block ?_))
 have hpk := hms.pick [some 2, some 1, some 0, some 3] [blk a6, blk a13, blk a0_16, M] rfl
 have hsu := pick_sub (ls := [blk a0_16, blk a13, blk a6, M]) [some 2, some 1, some 0, some 3] [blk a6, blk a13, blk a0_16, M] rfl
 replace hs_p0 := hs_p0.sub hsu
 replace hs_p1 := hs_p1.sub hsu
 replace ho6 := ho6.sub hsu
 replace ho13 := ho13.sub hsu
 replace hf16_1 := hf16_1.sub hsu
 replace hms := hpk
 replace hfr := hfr.pick [some 2, some 1, some 0] [blk a6, blk a13, blk a0_16] rfl
 clear hpk hsu
 obtain ⟨d18, hd18, h18⟩ := bind_some h
 obtain ⟨m18, hd18⟩ := loop_some hd18
 refine c_loop (loop_rule hmx (σ := Nat × (List Int) × (List Bool) × Int) (fun s => match s with | (_, d7_l18, d14_l18, t41__s41_l18) => [(0, .slice a_p0 (p0).length c_p0), (1, .slice a_p1 (p1).length c_p1), (4, .slice a6 (d7_l18).length c6), (9, .slice a13 (d14_l18).length c13), (10, .slice a0_16 (x15).length c0_16), (39, .slice a0_16 (x15).length c0_16), (40, Vi ((x15).length : Int)), (41, Vi t41__s41_l18)]) (fun s w' => match s with | (m, d7_l18, d14_l18, t41__s41_l18) => loopN (assign_Match_L18 p0 p1 x15) m (d7_l18, d14_l18, t41__s41_l18) = some d18 ∧ Ev [] w w' ∧ MS w' [blk a6, blk a13, blk a0_16, M] ∧ FR w.heap.size [blk a6, blk a13, blk a0_16] ∧ SlR (eInt .i64) w' (fl [blk a6, blk a13, blk a0_16, M]) a_p0 c_p0 p0 ∧ SlR (eInt .i64) w' (fl [blk a6, blk a13, blk a0_16, M]) a_p1 c_p1 p1 ∧ OwnS (eInt .i64) 3 w' (fl [blk a6, blk a13, blk a0_16, M]) a6 c6 d7_l18 ∧ OwnS eBool 4 w' (fl [blk a6, blk a13, blk a0_16, M]) a13 c13 d14_l18 ∧ OwnS (eInt .i64) 3 w' (fl [blk a6, blk a13, blk a0_16, M]) a0_16 c0_16 x15) (fun s => s.1) (m18, d7_l9, (List.replicate (Int.toNat ((p1).length : Int)) false : List Bool), 0) ⟨rfl, rfl, rfl, rfl, rfl, rfl, rfl, rfl, trivial⟩ ⟨hd18, hev, hms, hfr, hs_p0, hs_p1, ho6, ho13, hf16_1⟩ ?_)
 rintro ⟨m18, d7_l18, d14_l18, t41__s41_l18⟩ J wl18 ⟨hn18, hev, hms, hfr, hs_p0, hs_p1, ho6, ho13, hf16_1⟩
 rcases m18 with _ | m18
 · exact (loopN_zero hn18).elim
 obtain ⟨t18, h, hn18⟩ := bind_some hn18
 refine c_sp (x_u 1 [(42, .bool (decide (t41__s41_l18 < ((x15).length : Int))))] (x_ek (c_nm [(0, .slice a_p0 (p0).length c_p0), (1, .slice a_p1 (p1).length c_p1), (4, .slice a6 (d7_l18).length c6), (9, .slice a13 (d14_l18).length c13), (10, .slice a0_16 (x15).length c0_16), (39, .slice a0_16 (x15).length c0_16), (40, Vi ((x15).length : Int)), (41, Vi t41__s41_l18), (42, .bool (decide (t41__s41_l18 < ((x15).length : Int))))] (fun J => ?_))))
 refine c_seq (c_if (decide (t41__s41_l18 < ((x15).length : Int))) rfl h (fun h => ?_) (fun h => ?_))
 · refine c_skip (k_then (c_seq (c_block (c_sp (x_u 1 [(43, Vi t41__s41_l18)] ?_)))))
   obtain ⟨x20, hx20, h⟩ := bind_some h
   obtain ⟨g20, cs20, ha20, hr20, hc20, hR⟩ := own_index (Mo := []) tsl22 hf16_1 hx20
   obtain rfl := hR
   refine x_indexAddr (xv := .slice a0_16 (x15).length c0_16) (yv := Vi t41__s41_l18) (.pointer (some ⟨g20, (Int.toNat t41__s41_l18) * (eInt .i64).n, none⟩)) rfl rfl rfl rfl hr20 (x_load (xv := .pointer (some ⟨g20, (Int.toNat t41__s41_l18) * (eInt .i64).n, none⟩)) (Vi x20) rfl rfl rfl (reads_cell0 tcell3 hc20 (fun _ h => by cases h)) ?_)
   refine x_u 2 [(11, Vi t41__s41_l18), (12, Vi x20)] (x_ek (c_sp (x_u 1 [(13, Vi (-1))] (x_ek (c_seq ?_)))))
   refine c_sp (x_u 1 [(46, .slice a_p1 (p1).length c_p1)] (x_len (vs := [.slice a_p1 (p1).length c_p1]) (Vi ((p1).length : Int)) rfl rfl rfl (reads_len tsl22 _ _ _ _ _) (x_u 1 [(48, Vi 0)] (x_ek (c_block ?_)))))
   obtain ⟨d23, hd23, h23⟩ := bind_some h
   obtain ⟨m23, hd23⟩ := loop_some hd23
   refine c_loop (loop_rule hmx (σ := Nat × Int × Int) (fun s => match s with | (_, best_s13_l23, t48__s48_l23) => [(0, .slice a_p0 (p0).length c_p0), (1, .slice a_p1 (p1).length c_p1), (4, .slice a6 (d7_l18).length c6), (9, .slice a13 (d14_l18).length c13), (10, .slice a0_16 (x15).length c0_16), (11, Vi t41__s41_l18), (12, Vi x20), (13, Vi best_s13_l23), (39, .slice a0_16 (x15).length c0_16), (40, Vi ((x15).length : Int)), (41, Vi t41__s41_l18), (46, .slice a_p1 (p1).length c_p1), (47, Vi ((p1).length : Int)), (48, Vi t48__s48_l23)]) (fun s w' => match s with | (m, best_s13_l23, t48__s48_l23) => loopN (assign_Match_L23 p0 p1 d14_l18 x20) m (best_s13_l23, t48__s48_l23) = some d23 ∧ Ev [] w w' ∧ MS w' [blk a6, blk a13, blk a0_16, M] ∧ FR w.heap.size [blk a6, blk a13, blk a0_16] ∧ SlR (eInt .i64) w' (fl [blk a6, blk a13, blk a0_16, M]) a_p0 c_p0 p0 ∧ SlR (eInt .i64) w' (fl [blk a6, blk a13, blk a0_16, M]) a_p1 c_p1 p1 ∧ OwnS (eInt .i64) 3 w' (fl [blk a6, blk a13, blk a0_16, M]) a6 c6 d7_l18 ∧ OwnS eBool 4 w' (fl [blk a6, blk a13, blk a0_16, M]) a13 c13 d14_l18 ∧ OwnS (eInt .i64) 3 w' (fl [blk a6, blk a13, blk a0_16, M]) a0_16 c0_16 x15) (fun s => s.1) (m23, (-1), 0) ⟨rfl, rfl, rfl, rfl, rfl, rfl, rfl, rfl, rfl, rfl, rfl, rfl, rfl, rfl, trivial⟩ ⟨hd23, hev, hms, hfr, hs_p0, hs_p1, ho6, ho13, hf16_1⟩ ?_)
   rintro ⟨m23, best_s13_l23, t48__s48_l23⟩ J wl23 ⟨hn23, hev, hms, hfr, hs_p0, hs_p1, ho6, ho13, hf16_1⟩
   rcases m23 with _ | m23
   · exact (loopN_zero hn23).elim
   obtain ⟨t23, h, hn23⟩ := bind_some hn23
   refine c_sp (x_u 1 [(49, .bool (decide (t48__s48_l23 < ((p1).length : Int))))] (x_ek (c_nm [(0, .slice a_p0 (p0).length c_p0), (1, .slice a_p1 (p1).length c_p1), (4, .slice a6 (d7_l18).length c6), (9, .slice a13 (d14_l18).length c13), (10, .slice a0_16 (x15).length c0_16), (11, Vi t41__s41_l18), (12, Vi x20), (13, Vi best_s13_l23), (39, .slice a0_16 (x15).length c0_16), (40, Vi ((x15).length : Int)), (41, Vi t41__s41_l18), (46, .slice a_p1 (p1).length c_p1), (47, Vi ((p1).length : Int)), (48, Vi t48__s48_l23), (49, .bool (decide (t48__s48_l23 < ((p1).length : Int))))] (fun J => ?_))))
   refine c_seq (c_if (decide (t48__s48_l23 < ((p1).length : Int))) rfl h (fun h => ?_) (fun h => ?_))
   · refine c_skip (k_then (c_seq (c_block (c_sp (x_u 1 [(50, Vi t48__s48_l23)] ?_)))))
     obtain ⟨x25, hx25, h⟩ := bind_some h
     obtain ⟨ad25, cs25, hr25, hc25, hR⟩ := reads_index (Mo := []) tsl22 hs_p1 hx25
     obtain rfl := hR
     refine x_indexAddr (xv := .slice a_p1 (p1).length c_p1) (yv := Vi t48__s48_l23) (.pointer (some ad25)) rfl rfl rfl rfl hr25 (x_load (xv := .pointer (some ad25)) (Vi x25) rfl rfl rfl (reads_cell0 tcell3 hc25 (fun _ h => by cases h)) ?_)
     refine x_u 2 [(14, Vi t48__s48_l23), (15, Vi x25)] (x_ek (c_sp (x_u 2 [(53, .slice a13 (d14_l18).length c13), (54, Vi t48__s48_l23)] ?_)))
     obtain ⟨x27, hx27, h⟩ := bind_some h
     obtain ⟨g27, cs27, ha27, hr27, hc27, hR⟩ := own_index (Mo := []) tsl111 ho13 hx27
     obtain rfl := hR
     refine x_indexAddr (xv := .slice a13 (d14_l18).length c13) (yv := Vi t48__s48_l23) (.pointer (some ⟨g27, (Int.toNat t48__s48_l23) * eBool.n, none⟩)) rfl rfl rfl rfl hr27 (x_load (xv := .pointer (some ⟨g27, (Int.toNat t48__s48_l23) * eBool.n, none⟩)) (.bool x27) rfl rfl rfl (reads_cell0 tcell4 hc27 (fun _ h => by cases h)) ?_)
     refine x_u 2 [(57, .bool (!x27)), (58, .bool (!x27))] (x_if 58 (!x27) rfl h (fun h => ?_) (fun h => ?_))
     · refine x_u 3 [(59, Vi x25), (60, .slice a_p0 (p0).length c_p0), (61, Vi x20)] ?_
       obtain ⟨x29, hx29, h⟩ := bind_some h
       obtain ⟨ad29, cs29, hr29, hc29, hR⟩ := reads_index (Mo := []) tsl22 hs_p0 hx29
       obtain rfl := hR
       refine x_indexAddr (xv := .slice a_p0 (p0).length c_p0) (yv := Vi x20) (.pointer (some ad29)) rfl rfl rfl rfl hr29 (x_load (xv := .pointer (some ad29)) (Vi x29) rfl rfl rfl (reads_cell0 tcell3 hc29 (fun _ h => by cases h)) ?_)
       refine x_u 3 [(64, .bool (decide (x25 ≥ x29))), (65, .bool (decide (x25 ≥ x29))), (66, .bool (decide (x25 ≥ x29)))] (x_if 66 (decide (x25 ≥ x29)) rfl h (fun h => ?_) (fun h => ?_))
       · refine x_u 3 [(67, Vi best_s13_l23), (68, .bool (decide (best_s13_l23 < 0))), (69, .bool (decide (best_s13_l23 < 0)))] (x_if 69 (decide (best_s13_l23 < 0)) rfl h (fun h => ?_) (fun h => ?_))
         · refine x_u 8 [(70, undef), (71, undef), (72, undef), (73, undef), (74, undef), (75, undef), (76, .bool true), (77, .bool true)] (x_ek (c_nm [(0, .slice a_p0 (p0).length c_p0), (1, .slice a_p1 (p1).length c_p1), (4, .slice a6 (d7_l18).length c6), (9, .slice a13 (d14_l18).length c13), (10, .slice a0_16 (x15).length c0_16), (11, Vi t41__s41_l18), (12, Vi x20), (13, Vi best_s13_l23), (14, Vi t48__s48_l23), (39, .slice a0_16 (x15).length c0_16), (40, Vi ((x15).length : Int)), (41, Vi t41__s41_l18), (46, .slice a_p1 (p1).length c_p1), (47, Vi ((p1).length : Int)), (48, Vi t48__s48_l23), (77, .bool true)] (fun J => ?_)))
           refine c_true rfl (c_plain (x_u 2 [(78, Vi t48__s48_l23), (13, Vi t48__s48_l23)] (x_end rfl (k_block (k_then ?_)))))
           refine c_plain (x_u 2 [(79, Vi (IntKind.i64.wrap (t48__s48_l23 + 1))), (48, Vi (IntKind.i64.wrap (t48__s48_l23 + 1)))] (x_end rfl ?_))
           obtain rfl := some_inj h
           exact k_then ⟨(m23, t48__s48_l23, IntKind.i64.wrap (t48__s48_l23 + 1)), ⟨rfl, rfl, rfl, rfl, rfl, rfl, rfl, rfl, rfl, rfl, rfl, rfl, rfl, rfl, trivial⟩, ⟨hn23, hev, hms, hfr, hs_p0, hs_p1, ho6, ho13, hf16_1⟩, Nat.lt_succ_self _⟩
         refine x_u 3 [(70, Vi x25), (71, .slice a_p1 (p1).length c_p1), (72, Vi best_s13_l23)] ?_
         obtain ⟨x31, hx31, h⟩ := bind_some h
         obtain ⟨ad31, cs31, hr31, hc31, hR⟩ := reads_index (Mo := []) tsl22 hs_p1 hx31
         obtain rfl := hR
         refine x_indexAddr (xv := .slice a_p1 (p1).length c_p1) (yv := Vi best_s13_l23) (.pointer (some ad31)) rfl rfl rfl rfl hr31 (x_load (xv := .pointer (some ad31)) (Vi x31) rfl rfl rfl (reads_cell0 tcell3 hc31 (fun _ h => by cases h)) ?_)
         refine x_u 3 [(75, .bool (decide (x25 < x31))), (76, .bool (decide (x25 < x31))), (77, .bool (decide (x25 < x31)))] (x_ek (c_nm [(0, .slice a_p0 (p0).length c_p0), (1, .slice a_p1 (p1).length c_p1), (4, .slice a6 (d7_l18).length c6), (9, .slice a13 (d14_l18).length c13), (10, .slice a0_16 (x15).length c0_16), (11, Vi t41__s41_l18), (12, Vi x20), (13, Vi best_s13_l23), (14, Vi t48__s48_l23), (39, .slice a0_16 (x15).length c0_16), (40, Vi ((x15).length : Int)), (41, Vi t41__s41_l18), (46, .slice a_p1 (p1).length c_p1), (47, Vi ((p1).length : Int)), (48, Vi t48__s48_l23), (77, .bool (decide (x25 < x31)))] (fun J => ?_)))
         refine c_if (decide (x25 < x31)) rfl h (fun h => ?_) (fun h => ?_)
         · refine c_plain (x_u 2 [(78, Vi t48__s48_l23), (13, Vi t48__s48_l23)] (x_end rfl (k_block (k_then (c_plain ?_)))))
           refine x_u 2 [(79, Vi (IntKind.i64.wrap (t48__s48_l23 + 1))), (48, Vi (IntKind.i64.wrap (t48__s48_l23 + 1)))] (x_end rfl ?_)
           obtain rfl := some_inj h
           exact k_then ⟨(m23, t48__s48_l23, IntKind.i64.wrap (t48__s48_l23 + 1)), ⟨rfl, rfl, rfl, rfl, rfl, rfl, rfl, rfl, rfl, rfl, rfl, rfl, rfl, rfl, trivial⟩, ⟨hn23, hev, hms, hfr, hs_p0, hs_p1, ho6, ho13, hf16_1⟩, Nat.lt_succ_self _⟩
         refine c_skip (k_block (k_then (c_plain (x_u 2 [(79, Vi (IntKind.i64.wrap (t48__s48_l23 + 1))), (48, Vi (IntKind.i64.wrap (t48__s48_l23 + 1)))] (x_end rfl ?_)))))
         obtain rfl := some_inj h
         exact k_then ⟨(m23, best_s13_l23, IntKind.i64.wrap (t48__s48_l23 + 1)), ⟨rfl, rfl, rfl, rfl, rfl, rfl, rfl, rfl, rfl, rfl, rfl, rfl, rfl, rfl, trivial⟩, ⟨hn23, hev, hms, hfr, hs_p0, hs_p1, ho6, ho13, hf16_1⟩, Nat.lt_succ_self _⟩
       refine x_u 11 [(67, undef), (68, undef), (69, undef), (70, undef), (71, undef), (72, undef), (73, undef), (74, undef), (75, undef), (76, undef), (77, .bool false)] (x_ek (c_nm [(0, .slice a_p0 (p0).length c_p0), (1, .slice a_p1 (p1).length c_p1), (4, .slice a6 (d7_l18).length c6), (9, .slice a13 (d14_l18).length c13), (10, .slice a0_16 (x15).length c0_16), (11, Vi t41__s41_l18), (12, Vi x20), (13, Vi best_s13_l23), (14, Vi t48__s48_l23), (39, .slice a0_16 (x15).length c0_16), (40, Vi ((x15).length : Int)), (41, Vi t41__s41_l18), (46, .slice a_p1 (p1).length c_p1), (47, Vi ((p1).length : Int)), (48, Vi t48__s48_l23), (77, .bool false)] (fun J => ?_)))
       refine c_false rfl (c_skip (k_block (k_then (c_plain (x_u 2 [(79, Vi (IntKind.i64.wrap (t48__s48_l23 + 1))), (48, Vi (IntKind.i64.wrap (t48__s48_l23 + 1)))] ?_)))))
       refine x_end rfl ?_
       obtain rfl := some_inj h
       exact k_then ⟨(m23, best_s13_l23, IntKind.i64.wrap (t48__s48_l23 + 1)), ⟨rfl, rfl, rfl, rfl, rfl, rfl, rfl, rfl, rfl, rfl, rfl, rfl, rfl, rfl, trivial⟩, ⟨hn23, hev, hms, hfr, hs_p0, hs_p1, ho6, ho13, hf16_1⟩, Nat.lt_succ_self _⟩
     refine x_u 19 [(59, undef), (60, undef), (61, undef), (62, undef), (63, undef), (64, undef), (65, .bool false), (66, .bool false), (67, undef), (68, undef), (69, undef), (70, undef), (71, undef), (72, undef), (73, undef), (74, undef), (75, undef), (76, undef), (77, .bool false)] (x_ek (c_nm [(0, .slice a_p0 (p0).length c_p0), (1, .slice a_p1 (p1).length c_p1), (4, .slice a6 (d7_l18).length c6), (9, .slice a13 (d14_l18).length c13), (10, .slice a0_16 (x15).length c0_16), (11, Vi t41__s41_l18), (12, Vi x20), (13, Vi best_s13_l23), (14, Vi t48__s48_l23), (39, .slice a0_16 (x15).length c0_16), (40, Vi ((x15).length : Int)), (41, Vi t41__s41_l18), (46, .slice a_p1 (p1).length c_p1), (47, Vi ((p1).length : Int)), (48, Vi t48__s48_l23), (77, .bool false)] (fun J => ?_)))
     refine c_false rfl (c_skip (k_block (k_then (c_plain (x_u 2 [(79, Vi (IntKind.i64.wrap (t48__s48_l23 + 1))), (48, Vi (IntKind.i64.wrap (t48__s48_l23 + 1)))] ?_)))))
     refine x_end rfl ?_
     obtain rfl := some_inj h
     exact k_then ⟨(m23, best_s13_l23, IntKind.i64.wrap (t48__s48_l23 + 1)), ⟨rfl, rfl, rfl, rfl, rfl, rfl, rfl, rfl, rfl, rfl, rfl, rfl, rfl, rfl, trivial⟩, ⟨hn23, hev, hms, hfr, hs_p0, hs_p1, ho6, ho13, hf16_1⟩, Nat.lt_succ_self _⟩
   refine c_exit (k_then_exit ?_)
   obtain rfl := some_inj h
   have hy := some_inj hn23
   subst hy
   replace h := h23
   refine k_then_exit (k_block_in (k_then (c_nm [(0, .slice a_p0 (p0).length c_p0), (1, .slice a_p1 (p1).length c_p1), (4, .slice a6 (d7_l18).length c6), (9, .slice a13 (d14_l18).length c13), (10, .slice a0_16 (x15).length c0_16), (11, Vi t41__s41_l18), (12, Vi x20), (13, Vi best_s13_l23), (39, .slice a0_16 (x15).length c0_16), (40, Vi ((x15).length : Int)), (41, Vi t41__s41_l18)] (fun J => ?_))))
   refine c_seq (c_sp (x_u 2 [(80, Vi best_s13_l23), (81, .bool (decide (best_s13_l23 < 0)))] (x_ek (c_if (decide (best_s13_l23 < 0)) rfl h (fun h => ?_) (fun h => ?_)))))
   · refine c_sp (x_u 3 [(82, .slice a0_16 (x15).length c0_16), (83, Vi t41__s41_l18), (84, Vi (IntKind.i64.wrap (t41__s41_l18 + 1)))] ?_)
     have hpk := hms.pick [some 0, some 1, some 3] [blk a6, blk a13, M] rfl
     have hsu := pick_sub (ls := [blk a6, blk a13, blk a0_16, M]) [some 0, some 1, some 3] [blk a6, blk a13, M] rfl
     replace hf16_1 := hf16_1.ro hsu (pick_out hms 2 rfl [some 0, some 1, some 3] [blk a6, blk a13, M] rfl rfl)
     replace hms := hpk
     replace hfr := hfr.pick [some 0, some 1] [blk a6, blk a13] rfl
     clear hpk hsu
     have hg := guard_l h
     replace h := guard_r h
     obtain ⟨a33, c33, hr33, hs33⟩ := SlR.sliced (P := Tryz.prog) (Mo := []) tsl22 hf16_1 none (some (IntKind.i64.wrap (t41__s41_l18 + 1))) hg
     replace hs33 : SlR (eInt .i64) wl23 (fl [blk a6, blk a13, M]) a33 c33 ((x15.drop (Int.toNat (0 : Int))).take (Int.toNat (IntKind.i64.wrap (t41__s41_l18 + 1)) - Int.toNat (0 : Int))) := hs33
     refine x_slice (xv := .slice a0_16 (x15).length c0_16) (lv := none) (hv := (some (Vi (IntKind.i64.wrap (t41__s41_l18 + 1))))) (mv := none) (.slice a33 (((x15.drop (Int.toNat (0 : Int))).take (Int.toNat (IntKind.i64.wrap (t41__s41_l18 + 1)) - Int.toNat (0 : Int)))).length c33) rfl rfl rfl rfl rfl rfl hr33 ?_
     obtain ⟨x35, hx, h⟩ := bind_some h
     have hcall := slices_Clone_int_int__w a33 c33 ((x15.drop (Int.toNat (0 : Int))).take (Int.toNat (IntKind.i64.wrap (t41__s41_l18 + 1)) - Int.toNat (0 : Int))) _ wl23 (fl [blk a6, blk a13, M]) (MS.fold (P := []) hms) (hs33.sub fl1) hx
     refine x_call 118 #[] #[] [.slice a33 (((x15.drop (Int.toNat (0 : Int))).take (Int.toNat (IntKind.i64.wrap (t41__s41_l18 + 1)) - Int.toNat (0 : Int)))).length c33] _ rfl rfl rfl rfl hcall ?_
     rintro v w36 ⟨a0_36, c0_36, rfl, he36, hmn36, hfn36, hf36_1⟩
     clear hcall hx
     refine inl1 ?_
     replace hms := MS.call0 [blk a0_36] [blk a0_36, blk a6, blk a13, M] hms he36 hmn36 hfn36 rfl
     have hfr2 := FR.call0 [blk a0_36, blk a6, blk a13] hev.size hfn36 hfr rfl
     replace hev := hev.ext he36
     replace hfr := hfr2
     clear hfr2
     replace hf36_1 := OwnS.plain (M' := fl [blk a0_36, blk a6, blk a13, M]) (plain_int _) hf36_1
     refine x_u 1 [(5, .slice a0_36 (x35).length c0_36)] (x_ek (c_sp (x_u 1 [(87, .slice a0_36 (x35).length c0_36)] ?_)))
     have hg := guard_l h
     replace h := guard_r h
     have hcall := sortI_w (P := Tryz.prog) Lsort (f := 119) rfl ⟨_, Tryz.func119, by kernel_rfl, rfl⟩ (T := 3) hf36_1 hg
     refine x_call 119 #[] #[] [.slice a0_36 (x35).length c0_36] _ rfl rfl rfl rfl hcall ?_
     rintro v w38 ⟨rfl, he38, hln38, hw38⟩
     clear hcall
     refine inl1 ?_
     replace hms := hms.ev he38
     replace hev := hev.then he38 (fun b hb => .inr (hfr.at 0 rfl b hb))
     replace hf36_1 := hw38 (fl [blk a0_36, blk a6, blk a13, M])
     have hsl : (Value.slice a0_36 (x35).length c0_36) = (Value.slice a0_36 ((sortI x35)).length c0_36) := by first | (rw [hln38]; done) | simp only [hln38]
     try rw [hsl]
     clear hsl
     refine x_ek (c_sp (x_u 4 [(89, .slice a0_36 ((sortI x35)).length c0_36), (4, .slice none 0 0), (5, .slice a0_36 ((sortI x35)).length c0_36), (6, Vi 14)] (x_ek (c_nm [(4, .slice none 0 0), (5, .slice a0_36 ((sortI x35)).length c0_36), (6, Vi 14)] (fun J => ?_)))))
     refine c_ret (k_then_ret (k_block_ret (k_then_ret ?_)))
     obtain rfl := some_inj h
     have hy := some_inj hn18
     subst hy
     replace h := h18
     refine k_then_ret (k_block_ret (k_then_ret (r_ret (r_vals [.slice none 0 0, .slice a0_36 ((sortI x35)).length c0_36, Vi 14] ⟨rfl, rfl, rfl, trivial⟩ ?_))))
     obtain rfl := some_inj h
     have hmr := hms.pick [none, some 0, some 3] [blk none, blk a0_36, M] rfl
     have hsu := pick_sub (ls := [blk a0_36, blk a6, blk a13, M]) [none, some 0, some 3] [blk none, blk a0_36, M] rfl
     have hfe := hfr.pick [none, some 0] [blk none, blk a0_36] rfl
     exact ⟨none, 0, a0_36, c0_36, rfl, hev, hmr, hfe, OwnS.nil _ _ _ _, hf36_1.sub hsu⟩
   refine c_skip (k_then (c_sp (x_u 2 [(90, .slice a13 (d14_l18).length c13), (91, Vi best_s13_l23)] ?_)))
   obtain ⟨x39, hx39, h⟩ := bind_some h
   obtain ⟨g39, cs39, ha39, hr39, hc39, hR⟩ := own_index (Mo := []) tsl111 ho13 hx39
   obtain rfl := hR
   refine x_indexAddr (xv := .slice a13 (d14_l18).length c13) (yv := Vi best_s13_l23) (.pointer (some ⟨g39, (Int.toNat best_s13_l23) * eBool.n, none⟩)) rfl rfl rfl rfl hr39 ?_
   obtain ⟨w41, hr41, he41, ho41⟩ := own_storeE ha39 (y := true) 0 (.bool true) tcell4 ho13 (mem_flat 1 rfl) hx39 rfl rfl (fun _ _ _ hR => set_bool hR)
   refine x_store w41 (xv := .pointer (some ⟨g39, (Int.toNat best_s13_l23) * eBool.n, none⟩)) (yv := .bool true) rfl rfl rfl rfl hr41 (inl1 ?_)
   have hst := Stp.ev' (ls := [blk a6, blk a13, blk a0_16, M]) he41 (mem_flat 1 rfl)
   replace hs_p0 := hs_p0.step hst
   replace hs_p1 := hs_p1.step hst
   replace ho6 := ho6.step hst he41 (hms.apart 0 1 rfl rfl rfl)
   replace hf16_1 := hf16_1.step hst he41 (hms.apart 2 1 rfl rfl rfl)
   replace hms := hms.ev he41
   replace hev := hev.then he41 (fun b hb => .inr (hfr.at 1 rfl b hb))
   replace ho13 := ho41
   have hsl : (Value.slice a13 (d14_l18).length c13) = (Value.slice a13 ((d14_l18.set (Int.toNat best_s13_l23) true)).length c13) := by first | (rw [List.length_set]; done) | simp only [List.length_set]
   try rw [hsl]
   clear hsl
   refine x_ek (c_plain (x_u 3 [(93, .slice a6 (d7_l18).length c6), (94, Vi x20), (95, Vi best_s13_l23)] ?_))
   obtain ⟨x42, hx42, h⟩ := bind_some h
   obtain ⟨g42, cs42, ha42, hr42, hc42, hR⟩ := own_index (Mo := []) tsl22 ho6 hx42
   obtain rfl := hR
   refine x_indexAddr (xv := .slice a6 (d7_l18).length c6) (yv := Vi x20) (.pointer (some ⟨g42, (Int.toNat x20) * (eInt .i64).n, none⟩)) rfl rfl rfl rfl hr42 ?_
   obtain ⟨w44, hr44, he44, ho44⟩ := own_storeE ha42 (y := best_s13_l23) 0 (Vi best_s13_l23) tcell3 ho6 (mem_flat 0 rfl) hx42 rfl rfl (fun _ _ _ hR => set_int hR)
   refine x_store w44 (xv := .pointer (some ⟨g42, (Int.toNat x20) * (eInt .i64).n, none⟩)) (yv := Vi best_s13_l23) rfl rfl rfl rfl hr44 (inl1 ?_)
   have hst := Stp.ev' (ls := [blk a6, blk a13, blk a0_16, M]) he44 (mem_flat 0 rfl)
   replace hs_p0 := hs_p0.step hst
   replace hs_p1 := hs_p1.step hst
   replace ho13 := ho13.step hst he44 (hms.apart 1 0 rfl rfl rfl)
   replace hf16_1 := hf16_1.step hst he44 (hms.apart 2 0 rfl rfl rfl)
   replace hms := hms.ev he44
   replace hev := hev.then he44 (fun b hb => .inr (hfr.at 0 rfl b hb))
   replace ho6 := ho44
   have hsl : (Value.slice a6 (d7_l18).length c6) = (Value.slice a6 ((d7_l18.set (Int.toNat x20) best_s13_l23)).length c6) := by first | (rw [List.length_set]; done) | simp only [List.length_set]
   try rw [hsl]
   clear hsl
   refine x_end rfl (k_block (k_then (c_plain (x_u 2 [(97, Vi (IntKind.i64.wrap (t41__s41_l18 + 1))), (41, Vi (IntKind.i64.wrap (t41__s41_l18 + 1)))] (x_end rfl ?_)))))
   obtain rfl := some_inj h
   exact k_then ⟨(m18, (d7_l18.set (Int.toNat x20) best_s13_l23), (d14_l18.set (Int.toNat best_s13_l23) true), IntKind.i64.wrap (t41__s41_l18 + 1)), ⟨rfl, rfl, rfl, rfl, rfl, rfl, rfl, rfl, trivial⟩, ⟨hn18, hev, hms, hfr, hs_p0, hs_p1, ho6, ho13, hf16_1⟩, Nat.lt_succ_self _⟩
 refine c_exit (k_then_exit ?_)
 obtain rfl := some_inj h
 have hy := some_inj hn18
 subst hy
 replace h := h18
 refine k_then_exit (k_block_in (k_then (c_nm [(4, .slice a6 (d7_l18).length c6)] (fun J => ?_))))
 refine c_sp (x_u 4 [(98, .slice a6 (d7_l18).length c6), (4, .slice a6 (d7_l18).length c6), (5, .slice none 0 0), (6, Vi 0)] (x_ek (c_ret (r_ret (r_vals [.slice a6 (d7_l18).length c6, .slice none 0 0, Vi 0] ⟨rfl, rfl, rfl, trivial⟩ ?_)))))
 obtain rfl := some_inj h
 have hmr := hms.pick [some 0, none, some 3] [blk a6, blk none, M] rfl
 have hsu := pick_sub (ls := [blk a6, blk a13, blk a0_16, M]) [some 0, none, some 3] [blk a6, blk none, M] rfl
 have hfe := hfr.pick [some 0, none] [blk a6, blk none] rfl
 exact ⟨a6, c6, none, 0, rfl, hev, hmr, hfe, ho6.sub hsu, OwnS.nil _ _ _ _⟩
def assign_Fits_L9 (p0 : List Int) (p1 : List Int) (p2 : List Int) (s : (List Bool) × Int) : Option (Step ((List Bool) × Int) (Unit ⊕ Unit)) :=
match s with
| (d8_l9, t26__s26_l9) =>
(if (decide (t26__s26_l9 < ((p2).length : Int))) = true then
((idx p2 t26__s26_l9).bind fun x11 =>
((idx p0 t26__s26_l9).bind fun x14 =>
(if (x14 == 0) = true then
(if (x11 != (-1)) = true then
some (.done (.inl ()))
else
some (.next (d8_l9, IntKind.i64.wrap (t26__s26_l9 + 1))))
else
(if (decide (x11 < 0)) = true then
some (.done (.inl ()))
else
(if (decide (x11 ≥ ((p1).length : Int))) = true then
some (.done (.inl ()))
else
((idx d8_l9 x11).bind fun x16 =>
(if x16 = true then
some (.done (.inl ()))
else
((idx p1 x11).bind fun x18 =>
((idx p0 t26__s26_l9).bind fun x20 =>
(if (decide (x18 < x20)) = true then
some (.done (.inl ()))
else
((idx d8_l9 x11).bind fun x22 =>
some (.next ((d8_l9.set (Int.toNat x11) true), IntKind.i64.wrap (t26__s26_l9 + 1))))))))))))))
else
some (.done (.inr ())))
def assign_Fits (p0 : List Int) (p1 : List Int) (p2 : List Int) : Option Bool :=
((assign_check p0 p1).bind fun x5 =>
(if (x5 != 0) = true then
some false
else
(if (((p2).length : Int) != ((p0).length : Int)) = true then
some false
else
(if (0 : Int) ≤ ((p1).length : Int) ∧ (((p1).length : Int) : Int) ≤ 4294967296 then
((loop (assign_Fits_L9 p0 p1 p2) ((List.replicate (Int.toNat ((p1).length : Int)) false : List Bool), 0)).bind fun d => match d with
| (.inl _) => some false
| (.inr _) => some true)
else none))))
theorem assign_Fits_w (a_p0 : Option Addr) (c_p0 : Nat) (p0 : List Int) (a_p1 : Option Addr) (c_p1 : Nat) (p1 : List Int) (a_p2 : Option Addr) (c_p2 : Nat) (p2 : List Int) (r : Bool) (w : World) (M : List Nat) (hms : MS w [M]) (hs_p0 : SlR (eInt .i64) w (fl [M]) a_p0 c_p0 p0) (hs_p1 : SlR (eInt .i64) w (fl [M]) a_p1 c_p1 p1) (hs_p2 : SlR (eInt .i64) w (fl [M]) a_p2 c_p2 p2) (h : assign_Fits p0 p1 p2 = some r) : CallVC Tryz.prog 59 [.slice a_p0 (p0).length c_p0, .slice a_p1 (p1).length c_p1, .slice a_p2 (p2).length c_p2] w fun v w' => v = .bool r ∧ Ev [] w w' := by
 refine calls_vc hmx Tryz.func59 (by kernel_rfl) rfl (rs := [.tmp 6]) rfl (by kernel_rfl) (args := [.slice a_p0 (p0).length c_p0, .slice a_p1 (p1).length c_p1, .slice a_p2 (p2).length c_p2]) rfl ?_
 have hev : Ev [] w w := Ev.refl _ _
 have hfr : FR w.heap.size [] := FR.nil _
 refine c_sp (x_u 1 [(6, .bool false)] (x_ek (c_seq (c_sp (x_u 2 [(10, .slice a_p0 (p0).length c_p0), (11, .slice a_p1 (p1).length c_p1)] ?_)))))
 obtain ⟨x5, hx, h⟩ := bind_some h
 have hcall := assign_check_w a_p0 c_p0 p0 a_p1 c_p1 p1 _ w (fl [M]) (MS.fold (P := []) hms) (hs_p0.sub fl1) (hs_p1.sub fl1) hx
 refine x_call 71 #[] #[] [.slice a_p0 (p0).length c_p0, .slice a_p1 (p1).length c_p1] _ rfl rfl rfl rfl hcall ?_
 rintro v w6 ⟨rfl, he6⟩
 clear hcall hx
 refine inl1 ?_
 have hst := Stp.ext (ls := [M]) he6
 replace hs_p0 := hs_p0.step hst
 replace hs_p1 := hs_p1.step hst
 replace hs_p2 := hs_p2.step hst
 replace hms := hms.ev he6
 replace hev := hev.ext he6
 refine x_u 2 [(13, .bool (x5 != 0)), (14, .bool (x5 != 0))] (x_if 14 (x5 != 0) rfl h (fun h => ?_) (fun h => ?_))
 · refine x_u 6 [(15, undef), (16, undef), (17, undef), (18, undef), (19, undef), (20, .bool true)] (x_ek (c_true rfl (c_sp (x_u 1 [(6, .bool false)] (x_ek ?_)))))
   refine c_nm [(6, .bool false)] (fun J => ?_)
   refine c_ret (k_then_ret (r_ret (r_vals [.bool false] ⟨rfl, trivial⟩ ?_)))
   obtain rfl := some_inj h
   exact ⟨rfl, hev⟩
 refine x_u 1 [(15, .slice a_p2 (p2).length c_p2)] (x_len (vs := [.slice a_p2 (p2).length c_p2]) (Vi ((p2).length : Int)) rfl rfl rfl (reads_len tsl22 _ _ _ _ _) (x_u 1 [(17, .slice a_p0 (p0).length c_p0)] (x_len (vs := [.slice a_p0 (p0).length c_p0]) (Vi ((p0).length : Int)) rfl rfl rfl (reads_len tsl22 _ _ _ _ _) (x_u 2 [(19, .bool (((p2).length : Int) != ((p0).length : Int))), (20, .bool (((p2).length : Int) != ((p0).length : Int)))] (x_ek ?_)))))
 refine c_if (((p2).length : Int) != ((p0).length : Int)) rfl h (fun h => ?_) (fun h => ?_)
 · refine c_sp (x_u 1 [(6, .bool false)] (x_ek (c_nm [(6, .bool false)] (fun J => ?_))))
   refine c_ret (k_then_ret (r_ret (r_vals [.bool false] ⟨rfl, trivial⟩ ?_)))
   obtain rfl := some_inj h
   exact ⟨rfl, hev⟩
 refine c_skip (k_then (c_nm [(0, .slice a_p0 (p0).length c_p0), (1, .slice a_p1 (p1).length c_p1), (2, .slice a_p2 (p2).length c_p2)] (fun J => ?_)))
 refine c_sp (x_u 1 [(21, .slice a_p1 (p1).length c_p1)] (x_len (vs := [.slice a_p1 (p1).length c_p1]) (Vi ((p1).length : Int)) rfl rfl rfl (reads_len tsl22 _ _ _ _ _) ?_))
 have hg := guard_l h
 replace h := guard_r h
 obtain ⟨a7, c7, w7, hr7, he7, hn7, hw7⟩ := own_make (e := eBool) tel111 w6 ((p1).length : Int) hg.1 hg.2 false (fun _ _ => rfl)
 refine x_makeSlice _ w7 (xv := Vi ((p1).length : Int)) (yv := Vi ((p1).length : Int)) rfl rfl rfl rfl hr7 (inl1 ?_)
 have hst := Stp.push (ls := [M]) (l := blk a7) he7 (fun _ h => by cases h) (fun b hb => (hn7 b hb).1)
 replace hs_p0 := hs_p0.step hst
 replace hs_p1 := hs_p1.step hst
 replace hs_p2 := hs_p2.step hst
 replace hms := hms.push he7 hn7
 replace hfr := hfr.push (fun b hb => Nat.le_trans hev.size (hn7 b hb).1)
 replace hev := hev.ext he7
 have ho7 := hw7 (fl [blk a7, M])
 clear hw7
 refine x_u 1 [(7, .slice a7 ((List.replicate (Int.toNat ((p1).length : Int)) false : List Bool)).length c7)] (x_ek (c_seq (c_sp (x_u 1 [(24, .slice a_p2 (p2).length c_p2)] (x_len (vs := [.slice a_p2 (p2).length c_p2]) (Vi ((p2).length : Int)) rfl rfl rfl (reads_len tsl22 _ _ _ _ _) ?_)))))
 refine x_u 1 [(26, Vi 0)] (x_ek (c_block ?_))
 obtain ⟨d9, hd9, h9⟩ := bind_some h
 obtain ⟨m9, hd9⟩ := loop_some hd9
 refine c_loop (loop_rule hmx (σ := Nat × (List Bool) × Int) (fun s => match s with | (_, d8_l9, t26__s26_l9) => [(0, .slice a_p0 (p0).length c_p0), (1, .slice a_p1 (p1).length c_p1), (7, .slice a7 (d8_l9).length c7), (24, .slice a_p2 (p2).length c_p2), (25, Vi ((p2).length : Int)), (26, Vi t26__s26_l9)]) (fun s w' => match s with | (m, d8_l9, t26__s26_l9) => loopN (assign_Fits_L9 p0 p1 p2) m (d8_l9, t26__s26_l9) = some d9 ∧ Ev [] w w' ∧ MS w' [blk a7, M] ∧ FR w.heap.size [blk a7] ∧ SlR (eInt .i64) w' (fl [blk a7, M]) a_p0 c_p0 p0 ∧ SlR (eInt .i64) w' (fl [blk a7, M]) a_p1 c_p1 p1 ∧ OwnS eBool 4 w' (fl [blk a7, M]) a7 c7 d8_l9 ∧ SlR (eInt .i64) w' (fl [blk a7, M]) a_p2 c_p2 p2) (fun s => s.1) (m9, (List.replicate (Int.toNat ((p1).length : Int)) false : List Bool), 0) ⟨rfl, rfl, rfl, rfl, rfl, rfl, trivial⟩ ⟨hd9, hev, hms, hfr, hs_p0, hs_p1, ho7, hs_p2⟩ ?_)
 rintro ⟨m9, d8_l9, t26__s26_l9⟩ J wl9 ⟨hn9, hev, hms, hfr, hs_p0, hs_p1, ho7, hs_p2⟩
 rcases m9 with _ | m9
 · exact (loopN_zero hn9).elim
 obtain ⟨t9, h, hn9⟩ := bind_some hn9
 refine c_sp (x_u 1 [(27, .bool (decide (t26__s26_l9 < ((p2).length : Int))))] (x_ek (c_nm [(0, .slice a_p0 (p0).length c_p0), (1, .slice a_p1 (p1).length c_p1), (7, .slice a7 (d8_l9).length c7), (24, .slice a_p2 (p2).length c_p2), (25, Vi ((p2).length : Int)), (26, Vi t26__s26_l9), (27, .bool (decide (t26__s26_l9 < ((p2).length : Int))))] (fun J => ?_))))
 refine c_seq (c_if (decide (t26__s26_l9 < ((p2).length : Int))) rfl h (fun h => ?_) (fun h => ?_))
 · refine c_skip (k_then (c_seq (c_block (c_sp (x_u 1 [(28, Vi t26__s26_l9)] ?_)))))
   obtain ⟨x11, hx11, h⟩ := bind_some h
   obtain ⟨ad11, cs11, hr11, hc11, hR⟩ := reads_index (Mo := []) tsl22 hs_p2 hx11
   obtain rfl := hR
   refine x_indexAddr (xv := .slice a_p2 (p2).length c_p2) (yv := Vi t26__s26_l9) (.pointer (some ad11)) rfl rfl rfl rfl hr11 (x_load (xv := .pointer (some ad11)) (Vi x11) rfl rfl rfl (reads_cell0 tcell3 hc11 (fun _ h => by cases h)) ?_)
   refine x_u 2 [(8, Vi t26__s26_l9), (9, Vi x11)] (x_ek (c_seq (c_sp (x_u 2 [(31, .slice a_p0 (p0).length c_p0), (32, Vi t26__s26_l9)] ?_))))
   obtain ⟨x14, hx14, h⟩ := bind_some h
   obtain ⟨ad14, cs14, hr14, hc14, hR⟩ := reads_index (Mo := []) tsl22 hs_p0 hx14
   obtain rfl := hR
   refine x_indexAddr (xv := .slice a_p0 (p0).length c_p0) (yv := Vi t26__s26_l9) (.pointer (some ad14)) rfl rfl rfl rfl hr14 (x_load (xv := .pointer (some ad14)) (Vi x14) rfl rfl rfl (reads_cell0 tcell3 hc14 (fun _ h => by cases h)) ?_)
   refine x_u 1 [(35, .bool (x14 == 0))] (x_ek (c_if (x14 == 0) rfl h (fun h => ?_) (fun h => ?_)))
   · refine c_seq (c_sp (x_u 2 [(36, Vi x11), (37, .bool (x11 != (-1)))] (x_ek (c_nm [(0, .slice a_p0 (p0).length c_p0), (1, .slice a_p1 (p1).length c_p1), (7, .slice a7 (d8_l9).length c7), (24, .slice a_p2 (p2).length c_p2), (25, Vi ((p2).length : Int)), (26, Vi t26__s26_l9), (37, .bool (x11 != (-1)))] (fun J => ?_)))))
     refine c_if (x11 != (-1)) rfl h (fun h => ?_) (fun h => ?_)
     · refine c_sp (x_u 1 [(6, .bool false)] (x_ek (c_ret (k_then_ret (k_then_ret ?_)))))
       refine k_block_ret (k_then_ret ?_)
       obtain rfl := some_inj h
       have hy := some_inj hn9
       subst hy
       replace h := h9
       refine k_then_ret (k_block_ret (k_then_ret (r_ret (r_vals [.bool false] ⟨rfl, trivial⟩ ?_))))
       obtain rfl := some_inj h
       exact ⟨rfl, hev⟩
     refine c_skip (k_then (c_exit (k_then_exit (k_block_in (k_then ?_)))))
     refine c_plain (x_u 2 [(66, Vi (IntKind.i64.wrap (t26__s26_l9 + 1))), (26, Vi (IntKind.i64.wrap (t26__s26_l9 + 1)))] (x_end rfl ?_))
     obtain rfl := some_inj h
     exact k_then ⟨(m9, d8_l9, IntKind.i64.wrap (t26__s26_l9 + 1)), ⟨rfl, rfl, rfl, rfl, rfl, rfl, trivial⟩, ⟨hn9, hev, hms, hfr, hs_p0, hs_p1, ho7, hs_p2⟩, Nat.lt_succ_self _⟩
   refine c_skip (k_then (c_seq (c_seq (c_drawn [] [(0, false), (1, false), (2, false), (3, false), (4, false), (5, false), (6, false), (7, false), (8, false), (9, false), (10, false), (11, false), (12, false), (13, false), (14, false), (15, false), (16, false), (17, false), (18, false), (19, false), (20, false), (21, false), (22, false), (23, false), (24, false)] _ (by kernel_rfl) rfl ?_))))
   have hst := Stp.ext (ls := [blk a7, M]) (Ev.drew wl9)
   replace hs_p0 := hs_p0.step hst
   replace hs_p1 := hs_p1.step hst
   replace ho7 := ho7.step hst (Ev.drew wl9) nn2
   replace hs_p2 := hs_p2.step hst
   replace hms := hms.ev (Ev.drew wl9)
   replace hev := hev.ext (Ev.drew wl9)
   refine x_u 3 [(38, Vi x11), (39, .bool (decide (x11 < 0))), (40, .bool (decide (x11 < 0)))] (x_if 40 (decide (x11 < 0)) rfl h (fun h => ?_) (fun h => ?_))
   · refine x_u 22 [(41, undef), (42, undef), (43, undef), (44, undef), (45, .bool true), (46, .bool true), (47, undef), (48, undef), (49, undef), (50, undef), (51, .bool true), (52, .bool true), (53, undef), (54, undef), (55, undef), (56, undef), (57, undef), (58, undef), (59, undef), (60, undef), (61, undef), (62, .bool true)] (x_ek (c_nm [(0, .slice a_p0 (p0).length c_p0), (1, .slice a_p1 (p1).length c_p1), (7, .slice a7 (d8_l9).length c7), (9, Vi x11), (24, .slice a_p2 (p2).length c_p2), (25, Vi ((p2).length : Int)), (26, Vi t26__s26_l9), (62, .bool true)] (fun J => ?_)))
     refine c_true rfl (c_sp (x_u 1 [(6, .bool false)] (x_ek (c_ret (k_then_ret ?_)))))
     refine k_block_ret (k_then_ret ?_)
     obtain rfl := some_inj h
     have hy := some_inj hn9
     subst hy
     replace h := h9
     refine k_then_ret (k_block_ret (k_then_ret (r_ret (r_vals [.bool false] ⟨rfl, trivial⟩ ?_))))
     obtain rfl := some_inj h
     exact ⟨rfl, hev⟩
   refine x_u 2 [(41, Vi x11), (42, .slice a_p1 (p1).length c_p1)] (x_len (vs := [.slice a_p1 (p1).length c_p1]) (Vi ((p1).length : Int)) rfl rfl rfl (reads_len tsl22 _ _ _ _ _) (x_u 3 [(44, .bool (decide (x11 ≥ ((p1).length : Int)))), (45, .bool (decide (x11 ≥ ((p1).length : Int)))), (46, .bool (decide (x11 ≥ ((p1).length : Int))))] (x_if 46 (decide (x11 ≥ ((p1).length : Int))) rfl h (fun h => ?_) (fun h => ?_))))
   · refine x_u 16 [(47, undef), (48, undef), (49, undef), (50, undef), (51, .bool true), (52, .bool true), (53, undef), (54, undef), (55, undef), (56, undef), (57, undef), (58, undef), (59, undef), (60, undef), (61, undef), (62, .bool true)] (x_ek (c_nm [(0, .slice a_p0 (p0).length c_p0), (1, .slice a_p1 (p1).length c_p1), (7, .slice a7 (d8_l9).length c7), (9, Vi x11), (24, .slice a_p2 (p2).length c_p2), (25, Vi ((p2).length : Int)), (26, Vi t26__s26_l9), (62, .bool true)] (fun J => ?_)))
     refine c_true rfl (c_sp (x_u 1 [(6, .bool false)] (x_ek (c_ret (k_then_ret ?_)))))
     refine k_block_ret (k_then_ret ?_)
     obtain rfl := some_inj h
     have hy := some_inj hn9
     subst hy
     replace h := h9
     refine k_then_ret (k_block_ret (k_then_ret (r_ret (r_vals [.bool false] ⟨rfl, trivial⟩ ?_))))
     obtain rfl := some_inj h
     exact ⟨rfl, hev⟩
   refine x_u 2 [(47, .slice a7 (d8_l9).length c7), (48, Vi x11)] ?_
   obtain ⟨x16, hx16, h⟩ := bind_some h
   obtain ⟨g16, cs16, ha16, hr16, hc16, hR⟩ := own_index (Mo := []) tsl111 ho7 hx16
   obtain rfl := hR
   refine x_indexAddr (xv := .slice a7 (d8_l9).length c7) (yv := Vi x11) (.pointer (some ⟨g16, (Int.toNat x11) * eBool.n, none⟩)) rfl rfl rfl rfl hr16 (x_load (xv := .pointer (some ⟨g16, (Int.toNat x11) * eBool.n, none⟩)) (.bool x16) rfl rfl rfl (reads_cell0 tcell4 hc16 (fun _ h => by cases h)) ?_)
   refine x_u 2 [(51, .bool x16), (52, .bool x16)] (x_if 52 x16 rfl h (fun h => ?_) (fun h => ?_))
   · refine x_u 10 [(53, undef), (54, undef), (55, undef), (56, undef), (57, undef), (58, undef), (59, undef), (60, undef), (61, undef), (62, .bool true)] (x_ek (c_nm [(0, .slice a_p0 (p0).length c_p0), (1, .slice a_p1 (p1).length c_p1), (7, .slice a7 (d8_l9).length c7), (9, Vi x11), (24, .slice a_p2 (p2).length c_p2), (25, Vi ((p2).length : Int)), (26, Vi t26__s26_l9), (62, .bool true)] (fun J => ?_)))
     refine c_true rfl (c_sp (x_u 1 [(6, .bool false)] (x_ek (c_ret (k_then_ret ?_)))))
     refine k_block_ret (k_then_ret ?_)
     obtain rfl := some_inj h
     have hy := some_inj hn9
     subst hy
     replace h := h9
     refine k_then_ret (k_block_ret (k_then_ret (r_ret (r_vals [.bool false] ⟨rfl, trivial⟩ ?_))))
     obtain rfl := some_inj h
     exact ⟨rfl, hev⟩
   refine x_u 2 [(53, .slice a_p1 (p1).length c_p1), (54, Vi x11)] ?_
   obtain ⟨x18, hx18, h⟩ := bind_some h
   obtain ⟨ad18, cs18, hr18, hc18, hR⟩ := reads_index (Mo := []) tsl22 hs_p1 hx18
   obtain rfl := hR
   refine x_indexAddr (xv := .slice a_p1 (p1).length c_p1) (yv := Vi x11) (.pointer (some ad18)) rfl rfl rfl rfl hr18 (x_load (xv := .pointer (some ad18)) (Vi x18) rfl rfl rfl (reads_cell0 tcell3 hc18 (fun _ h => by cases h)) ?_)
   refine x_u 2 [(57, .slice a_p0 (p0).length c_p0), (58, Vi t26__s26_l9)] ?_
   obtain ⟨x20, hx20, h⟩ := bind_some h
   obtain ⟨ad20, cs20, hr20, hc20, hR⟩ := reads_index (Mo := []) tsl22 hs_p0 hx20
   obtain rfl := hR
   refine x_indexAddr (xv := .slice a_p0 (p0).length c_p0) (yv := Vi t26__s26_l9) (.pointer (some ad20)) rfl rfl rfl rfl hr20 (x_load (xv := .pointer (some ad20)) (Vi x20) rfl rfl rfl (reads_cell0 tcell3 hc20 (fun _ h => by cases h)) ?_)
   refine x_u 2 [(61, .bool (decide (x18 < x20))), (62, .bool (decide (x18 < x20)))] (x_ek (c_nm [(0, .slice a_p0 (p0).length c_p0), (1, .slice a_p1 (p1).length c_p1), (7, .slice a7 (d8_l9).length c7), (9, Vi x11), (24, .slice a_p2 (p2).length c_p2), (25, Vi ((p2).length : Int)), (26, Vi t26__s26_l9), (62, .bool (decide (x18 < x20)))] (fun J => ?_)))
   refine c_if (decide (x18 < x20)) rfl h (fun h => ?_) (fun h => ?_)
   · refine c_sp (x_u 1 [(6, .bool false)] (x_ek (c_ret (k_then_ret (k_block_ret ?_)))))
     refine k_then_ret ?_
     obtain rfl := some_inj h
     have hy := some_inj hn9
     subst hy
     replace h := h9
     refine k_then_ret (k_block_ret (k_then_ret (r_ret (r_vals [.bool false] ⟨rfl, trivial⟩ ?_))))
     obtain rfl := some_inj h
     exact ⟨rfl, hev⟩
   refine c_skip (k_then (c_plain (x_u 2 [(63, .slice a7 (d8_l9).length c7), (64, Vi x11)] ?_)))
   obtain ⟨x22, hx22, h⟩ := bind_some h
   obtain ⟨g22, cs22, ha22, hr22, hc22, hR⟩ := own_index (Mo := []) tsl111 ho7 hx22
   obtain rfl := hR
   refine x_indexAddr (xv := .slice a7 (d8_l9).length c7) (yv := Vi x11) (.pointer (some ⟨g22, (Int.toNat x11) * eBool.n, none⟩)) rfl rfl rfl rfl hr22 ?_
   obtain ⟨w24, hr24, he24, ho24⟩ := own_storeE ha22 (y := true) 0 (.bool true) tcell4 ho7 (mem_flat 0 rfl) hx22 rfl rfl (fun _ _ _ hR => set_bool hR)
   refine x_store w24 (xv := .pointer (some ⟨g22, (Int.toNat x11) * eBool.n, none⟩)) (yv := .bool true) rfl rfl rfl rfl hr24 (inl1 ?_)
   have hst := Stp.ev' (ls := [blk a7, M]) he24 (mem_flat 0 rfl)
   replace hs_p0 := hs_p0.step hst
   replace hs_p1 := hs_p1.step hst
   replace hs_p2 := hs_p2.step hst
   replace hms := hms.ev he24
   replace hev := hev.then he24 (fun b hb => .inr (hfr.at 0 rfl b hb))
   replace ho7 := ho24
   have hsl : (Value.slice a7 (d8_l9).length c7) = (Value.slice a7 ((d8_l9.set (Int.toNat x11) true)).length c7) := by first | (rw [List.length_set]; done) | simp only [List.length_set]
   try rw [hsl]
   clear hsl
   refine x_end rfl (k_block (k_then (c_plain (x_u 2 [(66, Vi (IntKind.i64.wrap (t26__s26_l9 + 1))), (26, Vi (IntKind.i64.wrap (t26__s26_l9 + 1)))] (x_end rfl ?_)))))
   obtain rfl := some_inj h
   exact k_then ⟨(m9, (d8_l9.set (Int.toNat x11) true), IntKind.i64.wrap (t26__s26_l9 + 1)), ⟨rfl, rfl, rfl, rfl, rfl, rfl, trivial⟩, ⟨hn9, hev, hms, hfr, hs_p0, hs_p1, ho7, hs_p2⟩, Nat.lt_succ_self _⟩
 refine c_exit (k_then_exit ?_)
 obtain rfl := some_inj h
 have hy := some_inj hn9
 subst hy
 replace h := h9
 refine k_then_exit (k_block_in (k_then (c_norm [] trivial (fun J => ?_))))
 refine c_sp (x_u 1 [(6, .bool true)] (x_ek (c_ret (r_ret (r_vals [.bool true] ⟨rfl, trivial⟩ ?_)))))
 obtain rfl := some_inj h
 exact ⟨rfl, hev⟩
def assign_Refuses_J12 (p0 : List Int) (least_s7_l8 : Int) (t24__s24_l8 : Int) (x10 : Int) : Option (Step (Int × Int) (Unit ⊕ Int)) :=
((idx p0 x10).bind fun x17 =>
some (.next (if x17 < least_s7_l8 then x17 else least_s7_l8, IntKind.i64.wrap (t24__s24_l8 + 1))))
def assign_Refuses_L20 (p1 : List Int) (least_s7_x801 : Int) (s : Int × Int) : Option (Step (Int × Int) Int) :=
match s with
| (long_s10_l20, t66__s66_l20) =>
(if (decide (t66__s66_l20 < ((p1).length : Int))) = true then
((idx p1 t66__s66_l20).bind fun x22 =>
(if (decide (x22 ≥ least_s7_x801)) = true then
some (.next (IntKind.i64.wrap (long_s10_l20 + 1), IntKind.i64.wrap (t66__s66_l20 + 1)))
else
some (.next (long_s10_l20, IntKind.i64.wrap (t66__s66_l20 + 1)))))
else
some (.done long_s10_l20))
def assign_Refuses_L8 (p0 : List Int) (p2 : List Int) (s : Int × Int) : Option (Step (Int × Int) (Unit ⊕ Int)) :=
match s with
| (least_s7_l8, t24__s24_l8) =>
(if (decide (t24__s24_l8 < ((p2).length : Int))) = true then
((idx p2 t24__s24_l8).bind fun x10 =>
(if (decide (x10 < 0)) = true then
some (.done (.inl ()))
else
(if (decide (x10 ≥ ((p0).length : Int))) = true then
some (.done (.inl ()))
else
((idx p0 x10).bind fun x13 =>
(if (x13 == 0) = true then
some (.done (.inl ()))
else
(if (decide (t24__s24_l8 > 0)) = true then
((idx p2 (IntKind.i64.wrap (t24__s24_l8 - 1))).bind fun x15 =>
(if (decide (x10 ≤ x15)) = true then
some (.done (.inl ()))
else
assign_Refuses_J12 p0 least_s7_l8 t24__s24_l8 x10))
else
assign_Refuses_J12 p0 least_s7_l8 t24__s24_l8 x10))))))
else
some (.done (.inr least_s7_l8)))
def assign_Refuses (p0 : List Int) (p1 : List Int) (p2 : List Int) : Option Bool :=
((assign_check p0 p1).bind fun x5 =>
(if (x5 != 0) = true then
some false
else
(if (((p2).length : Int) == 0) = true then
some false
else
((loop (assign_Refuses_L8 p0 p2) (38400, 0)).bind fun d => match d with
| (.inl _) => some false
| (.inr least_s7_x801) => ((loop (assign_Refuses_L20 p1 least_s7_x801) (0, 0)).bind fun d => match d with
| long_s10_x20 => some (decide (long_s10_x20 < ((p2).length : Int))))))))
theorem assign_Refuses_w (a_p0 : Option Addr) (c_p0 : Nat) (p0 : List Int) (a_p1 : Option Addr) (c_p1 : Nat) (p1 : List Int) (a_p2 : Option Addr) (c_p2 : Nat) (p2 : List Int) (r : Bool) (w : World) (M : List Nat) (hms : MS w [M]) (hs_p0 : SlR (eInt .i64) w (fl [M]) a_p0 c_p0 p0) (hs_p1 : SlR (eInt .i64) w (fl [M]) a_p1 c_p1 p1) (hs_p2 : SlR (eInt .i64) w (fl [M]) a_p2 c_p2 p2) (h : assign_Refuses p0 p1 p2 = some r) : CallVC Tryz.prog 40 [Vl a_p0 p0 c_p0, Vl a_p1 p1 c_p1, Vl a_p2 p2 c_p2] w fun v w' => v = .bool r ∧ Ev [] w w' := by
 refine calls_vc hmx Tryz.func40 (by kernel_rfl) rfl (rs := [.tmp 6]) rfl (by kernel_rfl) (args := [Vl a_p0 p0 c_p0, Vl a_p1 p1 c_p1, Vl a_p2 p2 c_p2]) rfl ?_
 have hev : Ev [] w w := Ev.refl _ _
 have hfr : FR w.heap.size [] := FR.nil _
 refine c_sp (x_u 1 [(6, .bool false)] (x_ek (c_seq (c_sp (x_u 2 [(13, Vl a_p0 p0 c_p0), (14, Vl a_p1 p1 c_p1)] ?_)))))
 obtain ⟨x5, hx, h⟩ := bind_some h
 have hcall := assign_check_w a_p0 c_p0 p0 a_p1 c_p1 p1 _ w (fl [M]) (MS.fold (P := []) hms) (hs_p0.sub fl1) (hs_p1.sub fl1) hx
 refine x_call 71 #[] #[] [Vl a_p0 p0 c_p0, Vl a_p1 p1 c_p1] _ rfl rfl rfl rfl hcall ?_
 rintro v w6 ⟨rfl, he6⟩
 clear hcall hx
 refine inl1 ?_
 have hst := Stp.ext (ls := [M]) he6
 replace hs_p0 := hs_p0.step hst
 replace hs_p1 := hs_p1.step hst
 replace hs_p2 := hs_p2.step hst
 replace hms := hms.ev he6
 replace hev := hev.ext he6
 refine x_u 2 [(16, .bool (x5 != 0)), (17, .bool (x5 != 0))] (x_if 17 (x5 != 0) rfl h (fun h => ?_) (fun h => ?_))
 · refine x_u 4 [(18, undef), (19, undef), (20, undef), (21, .bool true)] (x_ek (c_true rfl (c_sp (x_u 1 [(6, .bool false)] (x_ek ?_)))))
   refine c_ret (k_then_ret (r_ret (r_vals [.bool false] ⟨rfl, trivial⟩ ?_)))
   obtain rfl := some_inj h
   exact ⟨rfl, hev⟩
 refine x_u 1 [(18, Vl a_p2 p2 c_p2)] (x_len (vs := [Vl a_p2 p2 c_p2]) (Vi ((p2).length : Int)) rfl rfl rfl (reads_len tsl22 _ _ _ _ _) (x_u 2 [(20, .bool (((p2).length : Int) == 0)), (21, .bool (((p2).length : Int) == 0))] (x_ek (c_if (((p2).length : Int) == 0) rfl h (fun h => ?_) (fun h => ?_)))))
 · refine c_sp (x_u 1 [(6, .bool false)] (x_ek (c_ret (k_then_ret (r_ret (r_vals [.bool false] ⟨rfl, trivial⟩ ?_))))))
   obtain rfl := some_inj h
   exact ⟨rfl, hev⟩
 refine c_skip (k_then (c_sp (x_u 1 [(7, Vi 38400)] (x_ek (c_seq ?_)))))
 refine c_sp (x_u 1 [(22, Vl a_p2 p2 c_p2)] (x_len (vs := [Vl a_p2 p2 c_p2]) (Vi ((p2).length : Int)) rfl rfl rfl (reads_len tsl22 _ _ _ _ _) (x_u 1 [(24, Vi 0)] (x_ek (c_nm [(0, Vl a_p0 p0 c_p0), (1, Vl a_p1 p1 c_p1), (2, Vl a_p2 p2 c_p2), (7, Vi 38400), (22, Vl a_p2 p2 c_p2), (23, Vi ((p2).length : Int)), (24, Vi 0)] (fun J => ?_))))))
 refine c_block ?_
 obtain ⟨d8, hd8, h8⟩ := bind_some h
 obtain ⟨m8, hd8⟩ := loop_some hd8
 refine c_loop (loop_rule hmx (σ := Nat × Int × Int) (fun s => match s with | (_, least_s7_l8, t24__s24_l8) => [(0, Vl a_p0 p0 c_p0), (1, Vl a_p1 p1 c_p1), (2, Vl a_p2 p2 c_p2), (7, Vi least_s7_l8), (22, Vl a_p2 p2 c_p2), (23, Vi ((p2).length : Int)), (24, Vi t24__s24_l8)]) (fun s w' => match s with | (m, least_s7_l8, t24__s24_l8) => loopN (assign_Refuses_L8 p0 p2) m (least_s7_l8, t24__s24_l8) = some d8 ∧ Ev [] w w' ∧ MS w' [M] ∧ FR w.heap.size [] ∧ SlR (eInt .i64) w' (fl [M]) a_p0 c_p0 p0 ∧ SlR (eInt .i64) w' (fl [M]) a_p1 c_p1 p1 ∧ SlR (eInt .i64) w' (fl [M]) a_p2 c_p2 p2) (fun s => s.1) (m8, 38400, 0) ⟨rfl, rfl, rfl, rfl, rfl, rfl, rfl, trivial⟩ ⟨hd8, hev, hms, hfr, hs_p0, hs_p1, hs_p2⟩ ?_)
 rintro ⟨m8, least_s7_l8, t24__s24_l8⟩ J wl8 ⟨hn8, hev, hms, hfr, hs_p0, hs_p1, hs_p2⟩
 rcases m8 with _ | m8
 · exact (loopN_zero hn8).elim
 obtain ⟨t8, h, hn8⟩ := bind_some hn8
 refine c_sp (x_u 1 [(25, .bool (decide (t24__s24_l8 < ((p2).length : Int))))] (x_ek (c_nm [(0, Vl a_p0 p0 c_p0), (1, Vl a_p1 p1 c_p1), (2, Vl a_p2 p2 c_p2), (7, Vi least_s7_l8), (22, Vl a_p2 p2 c_p2), (23, Vi ((p2).length : Int)), (24, Vi t24__s24_l8), (25, .bool (decide (t24__s24_l8 < ((p2).length : Int))))] (fun J => ?_))))
 refine c_seq (c_if (decide (t24__s24_l8 < ((p2).length : Int))) rfl h (fun h => ?_) (fun h => ?_))
 · refine c_skip (k_then (c_seq (c_block (c_sp (x_u 1 [(26, Vi t24__s24_l8)] ?_)))))
   obtain ⟨x10, hx10, h⟩ := bind_some h
   obtain ⟨ad10, cs10, hr10, hc10, hR⟩ := reads_index (Mo := []) tsl22 hs_p2 hx10
   obtain rfl := hR
   refine x_indexAddr (xv := Vl a_p2 p2 c_p2) (yv := Vi t24__s24_l8) (.pointer (some ad10)) rfl rfl rfl rfl hr10 (x_load (xv := .pointer (some ad10)) (Vi x10) rfl rfl rfl (reads_cell0 tcell3 hc10 (fun _ h => by cases h)) ?_)
   refine x_u 2 [(8, Vi t24__s24_l8), (9, Vi x10)] (x_ek (c_join (σ := Unit) (fun s => match s with | _ => [(0, Vl a_p0 p0 c_p0), (1, Vl a_p1 p1 c_p1), (2, Vl a_p2 p2 c_p2), (7, Vi least_s7_l8), (9, Vi x10), (22, Vl a_p2 p2 c_p2), (23, Vi ((p2).length : Int)), (24, Vi t24__s24_l8)]) (fun s w' => match s with | _ => assign_Refuses_J12 p0 least_s7_l8 t24__s24_l8 x10 = some t8 ∧ Ev [] w w' ∧ MS w' [M] ∧ FR w.heap.size [] ∧ SlR (eInt .i64) w' (fl [M]) a_p0 c_p0 p0 ∧ SlR (eInt .i64) w' (fl [M]) a_p1 c_p1 p1 ∧ SlR (eInt .i64) w' (fl [M]) a_p2 c_p2 p2) ?_ ?_))
   · refine c_sp (x_u 3 [(29, Vi x10), (30, .bool (decide (x10 < 0))), (31, .bool (decide (x10 < 0)))] (x_if 31 (decide (x10 < 0)) rfl h (fun h => ?_) (fun h => ?_)))
     · refine x_u 25 [(32, undef), (33, undef), (34, undef), (35, undef), (36, .bool true), (37, .bool true), (38, undef), (39, undef), (40, undef), (41, undef), (42, undef), (43, .bool true), (44, .bool true), (45, undef), (46, undef), (47, undef), (48, undef), (49, undef), (50, undef), (51, undef), (52, undef), (53, undef), (54, undef), (55, undef), (56, .bool true)] (x_ek (c_nm [(0, Vl a_p0 p0 c_p0), (1, Vl a_p1 p1 c_p1), (2, Vl a_p2 p2 c_p2), (7, Vi least_s7_l8), (9, Vi x10), (22, Vl a_p2 p2 c_p2), (23, Vi ((p2).length : Int)), (24, Vi t24__s24_l8), (56, .bool true)] (fun J => ?_)))
       refine c_true rfl (c_sp (x_u 1 [(6, .bool false)] (x_ek (c_ret (k_then_ret ?_)))))
       refine k_block_ret (k_then_ret ?_)
       obtain rfl := some_inj h
       have hy := some_inj hn8
       subst hy
       replace h := h8
       refine k_then_ret (k_block_ret (k_then_ret (r_ret (r_vals [.bool false] ⟨rfl, trivial⟩ ?_))))
       obtain rfl := some_inj h
       exact ⟨rfl, hev⟩
     refine x_u 2 [(32, Vi x10), (33, Vl a_p0 p0 c_p0)] (x_len (vs := [Vl a_p0 p0 c_p0]) (Vi ((p0).length : Int)) rfl rfl rfl (reads_len tsl22 _ _ _ _ _) (x_u 3 [(35, .bool (decide (x10 ≥ ((p0).length : Int)))), (36, .bool (decide (x10 ≥ ((p0).length : Int)))), (37, .bool (decide (x10 ≥ ((p0).length : Int))))] (x_if 37 (decide (x10 ≥ ((p0).length : Int))) rfl h (fun h => ?_) (fun h => ?_))))
     · refine x_u 19 [(38, undef), (39, undef), (40, undef), (41, undef), (42, undef), (43, .bool true), (44, .bool true), (45, undef), (46, undef), (47, undef), (48, undef), (49, undef), (50, undef), (51, undef), (52, undef), (53, undef), (54, undef), (55, undef), (56, .bool true)] (x_ek (c_nm [(0, Vl a_p0 p0 c_p0), (1, Vl a_p1 p1 c_p1), (2, Vl a_p2 p2 c_p2), (7, Vi least_s7_l8), (9, Vi x10), (22, Vl a_p2 p2 c_p2), (23, Vi ((p2).length : Int)), (24, Vi t24__s24_l8), (56, .bool true)] (fun J => ?_)))
       refine c_true rfl (c_sp (x_u 1 [(6, .bool false)] (x_ek (c_ret (k_then_ret ?_)))))
       refine k_block_ret (k_then_ret ?_)
       obtain rfl := some_inj h
       have hy := some_inj hn8
       subst hy
       replace h := h8
       refine k_then_ret (k_block_ret (k_then_ret (r_ret (r_vals [.bool false] ⟨rfl, trivial⟩ ?_))))
       obtain rfl := some_inj h
       exact ⟨rfl, hev⟩
     refine x_u 2 [(38, Vl a_p0 p0 c_p0), (39, Vi x10)] ?_
     obtain ⟨x13, hx13, h⟩ := bind_some h
     obtain ⟨ad13, cs13, hr13, hc13, hR⟩ := reads_index (Mo := []) tsl22 hs_p0 hx13
     obtain rfl := hR
     refine x_indexAddr (xv := Vl a_p0 p0 c_p0) (yv := Vi x10) (.pointer (some ad13)) rfl rfl rfl rfl hr13 (x_load (xv := .pointer (some ad13)) (Vi x13) rfl rfl rfl (reads_cell0 tcell3 hc13 (fun _ h => by cases h)) ?_)
     refine x_u 3 [(42, .bool (x13 == 0)), (43, .bool (x13 == 0)), (44, .bool (x13 == 0))] (x_if 44 (x13 == 0) rfl h (fun h => ?_) (fun h => ?_))
     · refine x_u 12 [(45, undef), (46, undef), (47, undef), (48, undef), (49, undef), (50, undef), (51, undef), (52, undef), (53, undef), (54, undef), (55, undef), (56, .bool true)] (x_ek (c_nm [(0, Vl a_p0 p0 c_p0), (1, Vl a_p1 p1 c_p1), (2, Vl a_p2 p2 c_p2), (7, Vi least_s7_l8), (9, Vi x10), (22, Vl a_p2 p2 c_p2), (23, Vi ((p2).length : Int)), (24, Vi t24__s24_l8), (56, .bool true)] (fun J => ?_)))
       refine c_true rfl (c_sp (x_u 1 [(6, .bool false)] (x_ek (c_ret (k_then_ret ?_)))))
       refine k_block_ret (k_then_ret ?_)
       obtain rfl := some_inj h
       have hy := some_inj hn8
       subst hy
       replace h := h8
       refine k_then_ret (k_block_ret (k_then_ret (r_ret (r_vals [.bool false] ⟨rfl, trivial⟩ ?_))))
       obtain rfl := some_inj h
       exact ⟨rfl, hev⟩
     refine x_u 3 [(45, Vi t24__s24_l8), (46, .bool (decide (t24__s24_l8 > 0))), (47, .bool (decide (t24__s24_l8 > 0)))] (x_if 47 (decide (t24__s24_l8 > 0)) rfl h (fun h => ?_) (fun h => ?_))
     · refine x_u 4 [(48, Vi x10), (49, Vl a_p2 p2 c_p2), (50, Vi t24__s24_l8), (51, Vi (IntKind.i64.wrap (t24__s24_l8 - 1)))] ?_
       obtain ⟨x15, hx15, h⟩ := bind_some h
       obtain ⟨ad15, cs15, hr15, hc15, hR⟩ := reads_index (Mo := []) tsl22 hs_p2 hx15
       obtain rfl := hR
       refine x_indexAddr (xv := Vl a_p2 p2 c_p2) (yv := Vi (IntKind.i64.wrap (t24__s24_l8 - 1))) (.pointer (some ad15)) rfl rfl rfl rfl hr15 (x_load (xv := .pointer (some ad15)) (Vi x15) rfl rfl rfl (reads_cell0 tcell3 hc15 (fun _ h => by cases h)) ?_)
       refine x_u 3 [(54, .bool (decide (x10 ≤ x15))), (55, .bool (decide (x10 ≤ x15))), (56, .bool (decide (x10 ≤ x15)))] (x_ek (c_nm [(0, Vl a_p0 p0 c_p0), (1, Vl a_p1 p1 c_p1), (2, Vl a_p2 p2 c_p2), (7, Vi least_s7_l8), (9, Vi x10), (22, Vl a_p2 p2 c_p2), (23, Vi ((p2).length : Int)), (24, Vi t24__s24_l8), (56, .bool (decide (x10 ≤ x15)))] (fun J => ?_)))
       refine c_if (decide (x10 ≤ x15)) rfl h (fun h => ?_) (fun h => ?_)
       · refine c_sp (x_u 1 [(6, .bool false)] (x_ek (c_ret (k_then_ret (k_block_ret ?_)))))
         refine k_then_ret ?_
         obtain rfl := some_inj h
         have hy := some_inj hn8
         subst hy
         replace h := h8
         refine k_then_ret (k_block_ret (k_then_ret (r_ret (r_vals [.bool false] ⟨rfl, trivial⟩ ?_))))
         obtain rfl := some_inj h
         exact ⟨rfl, hev⟩
       refine c_skip ?_
       exact k_then ⟨(), ⟨rfl, rfl, rfl, rfl, rfl, rfl, rfl, rfl, trivial⟩, h, hev, hms, hfr, hs_p0, hs_p1, hs_p2⟩
     refine x_u 9 [(48, undef), (49, undef), (50, undef), (51, undef), (52, undef), (53, undef), (54, undef), (55, .bool false), (56, .bool false)] (x_ek (c_nm [(0, Vl a_p0 p0 c_p0), (1, Vl a_p1 p1 c_p1), (2, Vl a_p2 p2 c_p2), (7, Vi least_s7_l8), (9, Vi x10), (22, Vl a_p2 p2 c_p2), (23, Vi ((p2).length : Int)), (24, Vi t24__s24_l8), (56, .bool false)] (fun J => ?_)))
     refine c_false rfl (c_skip ?_)
     exact k_then ⟨(), ⟨rfl, rfl, rfl, rfl, rfl, rfl, rfl, rfl, trivial⟩, h, hev, hms, hfr, hs_p0, hs_p1, hs_p2⟩
   rintro _ J wj12 ⟨h, hev, hms, hfr, hs_p0, hs_p1, hs_p2⟩
   refine c_plain (x_u 3 [(57, Vi least_s7_l8), (58, Vl a_p0 p0 c_p0), (59, Vi x10)] ?_)
   obtain ⟨x17, hx17, h⟩ := bind_some h
   obtain ⟨ad17, cs17, hr17, hc17, hR⟩ := reads_index (Mo := []) tsl22 hs_p0 hx17
   obtain rfl := hR
   refine x_indexAddr (xv := Vl a_p0 p0 c_p0) (yv := Vi x10) (.pointer (some ad17)) rfl rfl rfl rfl hr17 (x_load (xv := .pointer (some ad17)) (Vi x17) rfl rfl rfl (reads_cell0 tcell3 hc17 (fun _ h => by cases h)) ?_)
   refine x_min (vs := [Vi least_s7_l8, Vi x17]) (Vi (if x17 < least_s7_l8 then x17 else least_s7_l8)) rfl rfl rfl (fun _ _ => rfl) (x_u 1 [(7, Vi (if x17 < least_s7_l8 then x17 else least_s7_l8))] (x_end rfl (k_block (k_then (c_nm [(0, Vl a_p0 p0 c_p0), (1, Vl a_p1 p1 c_p1), (2, Vl a_p2 p2 c_p2), (7, Vi (if x17 < least_s7_l8 then x17 else least_s7_l8)), (22, Vl a_p2 p2 c_p2), (23, Vi ((p2).length : Int)), (24, Vi t24__s24_l8)] (fun J => ?_))))))
   refine c_plain (x_u 2 [(63, Vi (IntKind.i64.wrap (t24__s24_l8 + 1))), (24, Vi (IntKind.i64.wrap (t24__s24_l8 + 1)))] (x_end rfl ?_))
   obtain rfl := some_inj h
   exact k_then ⟨(m8, if x17 < least_s7_l8 then x17 else least_s7_l8, IntKind.i64.wrap (t24__s24_l8 + 1)), ⟨rfl, rfl, rfl, rfl, rfl, rfl, rfl, trivial⟩, ⟨hn8, hev, hms, hfr, hs_p0, hs_p1, hs_p2⟩, Nat.lt_succ_self _⟩
 refine c_exit (k_then_exit ?_)
 obtain rfl := some_inj h
 have hy := some_inj hn8
 subst hy
 replace h := h8
 refine k_then_exit (k_block_in (k_then (c_nm [(1, Vl a_p1 p1 c_p1), (2, Vl a_p2 p2 c_p2), (7, Vi least_s7_l8)] (fun J => ?_))))
 refine c_sp (x_u 1 [(10, Vi 0)] (x_ek (c_seq (c_sp (x_u 1 [(64, Vl a_p1 p1 c_p1)] ?_)))))
 refine x_len (vs := [Vl a_p1 p1 c_p1]) (Vi ((p1).length : Int)) rfl rfl rfl (reads_len tsl22 _ _ _ _ _) (x_u 1 [(66, Vi 0)] (x_ek (c_block ?_)))
 obtain ⟨d20, hd20, h20⟩ := bind_some h
 obtain ⟨m20, hd20⟩ := loop_some hd20
 refine c_loop (loop_rule hmx (σ := Nat × Int × Int) (fun s => match s with | (_, long_s10_l20, t66__s66_l20) => [(2, Vl a_p2 p2 c_p2), (7, Vi least_s7_l8), (10, Vi long_s10_l20), (64, Vl a_p1 p1 c_p1), (65, Vi ((p1).length : Int)), (66, Vi t66__s66_l20)]) (fun s w' => match s with | (m, long_s10_l20, t66__s66_l20) => loopN (assign_Refuses_L20 p1 least_s7_l8) m (long_s10_l20, t66__s66_l20) = some d20 ∧ Ev [] w w' ∧ MS w' [M] ∧ FR w.heap.size [] ∧ SlR (eInt .i64) w' (fl [M]) a_p2 c_p2 p2 ∧ SlR (eInt .i64) w' (fl [M]) a_p1 c_p1 p1) (fun s => s.1) (m20, 0, 0) ⟨rfl, rfl, rfl, rfl, rfl, rfl, trivial⟩ ⟨hd20, hev, hms, hfr, hs_p2, hs_p1⟩ ?_)
 rintro ⟨m20, long_s10_l20, t66__s66_l20⟩ J wl20 ⟨hn20, hev, hms, hfr, hs_p2, hs_p1⟩
 rcases m20 with _ | m20
 · exact (loopN_zero hn20).elim
 obtain ⟨t20, h, hn20⟩ := bind_some hn20
 refine c_sp (x_u 1 [(67, .bool (decide (t66__s66_l20 < ((p1).length : Int))))] (x_ek (c_nm [(2, Vl a_p2 p2 c_p2), (7, Vi least_s7_l8), (10, Vi long_s10_l20), (64, Vl a_p1 p1 c_p1), (65, Vi ((p1).length : Int)), (66, Vi t66__s66_l20), (67, .bool (decide (t66__s66_l20 < ((p1).length : Int))))] (fun J => ?_))))
 refine c_seq (c_if (decide (t66__s66_l20 < ((p1).length : Int))) rfl h (fun h => ?_) (fun h => ?_))
 · refine c_skip (k_then (c_seq (c_block (c_sp ?_))))
   obtain ⟨x22, hx22, h⟩ := bind_some h
   obtain ⟨ad22, cs22, hr22, hc22, hR⟩ := reads_index (Mo := []) tsl22 hs_p1 hx22
   obtain rfl := hR
   refine x_indexAddr (xv := Vl a_p1 p1 c_p1) (yv := Vi t66__s66_l20) (.pointer (some ad22)) rfl rfl rfl rfl hr22 (x_load (xv := .pointer (some ad22)) (Vi x22) rfl rfl rfl (reads_cell0 tcell3 hc22 (fun _ h => by cases h)) ?_)
   refine x_u 1 [(12, Vi x22)] (x_ek (c_sp (x_u 3 [(70, Vi x22), (71, Vi least_s7_l8), (72, .bool (decide (x22 ≥ least_s7_l8)))] (x_ek (c_if (decide (x22 ≥ least_s7_l8)) rfl h (fun h => ?_) (fun h => ?_))))))
   · refine c_plain (x_u 3 [(73, Vi long_s10_l20), (74, Vi (IntKind.i64.wrap (long_s10_l20 + 1))), (10, Vi (IntKind.i64.wrap (long_s10_l20 + 1)))] (x_end rfl (k_block (k_then (c_plain ?_)))))
     refine x_u 2 [(75, Vi (IntKind.i64.wrap (t66__s66_l20 + 1))), (66, Vi (IntKind.i64.wrap (t66__s66_l20 + 1)))] (x_end rfl ?_)
     obtain rfl := some_inj h
     exact k_then ⟨(m20, IntKind.i64.wrap (long_s10_l20 + 1), IntKind.i64.wrap (t66__s66_l20 + 1)), ⟨rfl, rfl, rfl, rfl, rfl, rfl, trivial⟩, ⟨hn20, hev, hms, hfr, hs_p2, hs_p1⟩, Nat.lt_succ_self _⟩
   refine c_skip (k_block (k_then (c_plain (x_u 2 [(75, Vi (IntKind.i64.wrap (t66__s66_l20 + 1))), (66, Vi (IntKind.i64.wrap (t66__s66_l20 + 1)))] (x_end rfl ?_)))))
   obtain rfl := some_inj h
   exact k_then ⟨(m20, long_s10_l20, IntKind.i64.wrap (t66__s66_l20 + 1)), ⟨rfl, rfl, rfl, rfl, rfl, rfl, trivial⟩, ⟨hn20, hev, hms, hfr, hs_p2, hs_p1⟩, Nat.lt_succ_self _⟩
 refine c_exit (k_then_exit ?_)
 obtain rfl := some_inj h
 have hy := some_inj hn20
 subst hy
 replace h := h20
 refine k_then_exit (k_block_in (k_then (c_nm [(2, Vl a_p2 p2 c_p2), (10, Vi long_s10_l20)] (fun J => ?_))))
 refine c_sp (x_u 2 [(76, Vi long_s10_l20), (77, Vl a_p2 p2 c_p2)] (x_len (vs := [Vl a_p2 p2 c_p2]) (Vi ((p2).length : Int)) rfl rfl rfl (reads_len tsl22 _ _ _ _ _) (x_u 2 [(79, .bool (decide (long_s10_l20 < ((p2).length : Int)))), (6, .bool (decide (long_s10_l20 < ((p2).length : Int))))] (x_ek (c_ret ?_)))))
 refine r_ret (r_vals [.bool (decide (long_s10_l20 < ((p2).length : Int)))] ⟨rfl, trivial⟩ ?_)
 obtain rfl := some_inj h
 exact ⟨rfl, hev⟩
end Go.Proofs.YtlejnkhaphlooaaGreat
