
/- Walks, printed by program: each function returns what the partial function of the same name returns. Conditions: those of each theorem. -/
import Derived.Test.YtlejnkhaphlooaaGreatGT
import Derived.Test.YtlejnkhaphlooaaGreatGcode
import Derived.Test.YtlejnkhaphlooaaGreatGjob
set_option linter.unusedVariables false
set_option linter.unusedSimpArgs false
set_option maxRecDepth 4000
namespace Go.Proofs.YtlejnkhaphlooaaGreat
open Go Go.V Go.Proofs
def rollin_Valid_L11 (p0_0 : List (Int × Int × Int × Int)) (p0_1 : Int) (p1_0 : Int) (p1_1 : List Int) (s : Int) : Option (Step Int (Unit ⊕ Unit)) :=
match s with
| t33__s33_l11 =>
(if (decide (t33__s33_l11 < ((p1_1).length : Int))) = true then
((idx p1_1 t33__s33_l11).bind fun x13 =>
((idx p0_0 t33__s33_l11).bind fun x15 =>
((code_Is x13 x15.2.2.1 p0_1).bind fun x17 =>
(if (!x17) = true then
some (.done (.inl ()))
else
(if 0 ≤ p1_0 then
(if ((Int.fdiv x13 (2 ^ (min (Int.toNat (p1_0)) IntKind.i64.bits))) != 0) = true then
some (.done (.inl ()))
else
some (.next (IntKind.i64.wrap (t33__s33_l11 + 1))))
else none)))))
else
some (.done (.inr ())))
def rollin_Valid (p0_0 : List (Int × Int × Int × Int)) (p0_1 : Int) (p1_0 : Int) (p1_1 : List Int) : Option Int :=
((job_Valid p0_0 p0_1).bind fun x8 =>
(if (x8 != 0) = true then
some x8
else
(if (decide (p1_0 < 0)) = true then
some 1
else
(if (decide (p1_0 > 12)) = true then
some 1
else
(if (((p1_1).length : Int) != ((p0_0).length : Int)) = true then
some 1
else
((loop (rollin_Valid_L11 p0_0 p0_1 p1_0 p1_1) 0).bind fun d => match d with
| (.inl _) => some 1
| (.inr _) => some 0))))))
theorem rollin_Valid_w (a_p0_0 : Option Addr) (c_p0_0 : Nat) (p0_0 : List (Int × Int × Int × Int)) (p0_1 : Int) (p1_0 : Int) (a_p1_1 : Option Addr) (c_p1_1 : Nat) (p1_1 : List Int) (r : Int) (w : World) (M : List Nat) (hms : MS w [M]) (hs_p0_0 : SlR (eIt4) w (fl [M]) a_p0_0 c_p0_0 p0_0) (hs_p1_1 : SlR (eInt .i64) w (fl [M]) a_p1_1 c_p1_1 p1_1) (h : rollin_Valid p0_0 p0_1 p1_0 p1_1 = some r) : CallVC Tryz.prog 53 [.agg #[Vl a_p0_0 p0_0 c_p0_0, Vi p0_1], .agg #[Vi p1_0, Vl a_p1_1 p1_1 c_p1_1]] w fun v w' => v = Vi r ∧ Ev [] w w' := by
 refine calls_vc hmx Tryz.func53 (by kernel_rfl) rfl (rs := [.tmp 4]) rfl (by kernel_rfl) (args := [.agg #[Vl a_p0_0 p0_0 c_p0_0, Vi p0_1], .agg #[Vi p1_0, Vl a_p1_1 p1_1 c_p1_1]]) rfl ?_
 have hev : Ev [] w w := Ev.refl _ _
 have hfr : FR w.heap.size [] := FR.nil _
 refine c_sp (x_box (xv := .agg #[Vl a_p0_0 p0_0 c_p0_0, Vi p0_1]) rfl rfl rfl (fun b3 w3 hq3 hb3 he3 hz3 => ?_))
 replace hb3 : w3.heap[b3]? = some (.cells #[Vl a_p0_0 p0_0 c_p0_0, Vi p0_1] 50 (0, 0)) := hb3
 refine inl1 ?_
 have hst := Stp.box (ls := [M]) he3 hq3
 replace hs_p0_0 := hs_p0_0.step hst
 replace hs_p1_1 := hs_p1_1.step hst
 replace hms := hms.box he3 hq3 hb3
 replace hfr := hfr.box hev.size hq3
 replace hev := hev.ext he3
 refine x_box (xv := .agg #[Vi p1_0, Vl a_p1_1 p1_1 c_p1_1]) rfl rfl rfl (fun b5 w5 hq5 hb5 he5 hz5 => ?_)
 replace hb5 : w5.heap[b5]? = some (.cells #[Vi p1_0, Vl a_p1_1 p1_1 c_p1_1] 52 (0, 0)) := hb5
 refine inl1 ?_
 have hst := Stp.box (ls := [[b3], M]) he5 hq5
 replace hs_p0_0 := hs_p0_0.step hst
 replace hs_p1_1 := hs_p1_1.step hst
 replace hb3 := he5.box hb3 nn
 replace hms := hms.box he5 hq5 hb5
 replace hfr := hfr.box hev.size hq5
 replace hev := hev.ext he5
 refine x_u 1 [(4, Vi 0)] (x_ek (c_seq (c_sp (x_load (xv := Vp b3 0) (.agg #[Vl a_p0_0 p0_0 c_p0_0, Vi p0_1]) rfl rfl rfl (reads_boxagg 0 [Vl a_p0_0 p0_0 c_p0_0, Vi p0_1] tagg50 hb3 nn rfl) ?_))))
 obtain ⟨x8, hx, h⟩ := bind_some h
 have hcall := job_Valid_w a_p0_0 c_p0_0 p0_0 p0_1 _ w5 (fl [[b5], [b3], M]) (MS.fold (P := []) hms) (hs_p0_0.sub fl1) hx
 refine x_call 46 #[] #[] [.agg #[Vl a_p0_0 p0_0 c_p0_0, Vi p0_1]] _ rfl rfl rfl rfl hcall ?_
 rintro v w9 ⟨rfl, he9⟩
 clear hcall hx
 refine inl1 ?_
 have hst := Stp.ext (ls := [[b5], [b3], M]) he9
 replace hs_p0_0 := hs_p0_0.step hst
 replace hs_p1_1 := hs_p1_1.step hst
 replace hb3 := he9.box hb3 nn
 replace hb5 := he9.box hb5 nn
 replace hms := hms.ev he9
 replace hev := hev.ext he9
 refine x_u 1 [(5, Vi x8)] (x_ek (c_sp (x_u 2 [(10, Vi x8), (11, .bool (x8 != 0))] (x_ek (c_if (x8 != 0) rfl h (fun h => ?_) (fun h => ?_))))))
 · refine c_sp (x_u 2 [(12, Vi x8), (4, Vi x8)] (x_ek (c_ret (k_then_ret (r_ret (r_vals [Vi x8] ⟨rfl, trivial⟩ ?_))))))
   obtain rfl := some_inj h
   exact ⟨rfl, hev⟩
 refine c_skip (k_then (c_seq (c_sp (x_fieldAddr (xv := Vp b5 0) (Vp b5 0) rfl rfl rfl (reads_field tfld52_0 _ _) (x_load (xv := Vp b5 0) (Vi p1_0) rfl rfl rfl (reads_box tcell3 hb5 nn 0 _ rfl) ?_)))))
 refine x_u 2 [(15, .bool (decide (p1_0 < 0))), (16, .bool (decide (p1_0 < 0)))] (x_if 16 (decide (p1_0 < 0)) rfl h (fun h => ?_) (fun h => ?_))
 · refine x_u 13 [(17, undef), (18, undef), (19, undef), (20, .bool true), (21, .bool true), (22, undef), (23, undef), (24, undef), (25, undef), (26, undef), (27, undef), (28, undef), (29, .bool true)] (x_ek (c_nm [(2, Vp b3 0), (3, Vp b5 0), (29, .bool true)] (fun J => ?_)))
   refine c_true rfl (c_sp (x_u 1 [(4, Vi 1)] (x_ek (c_ret (k_then_ret ?_)))))
   refine r_ret (r_vals [Vi 1] ⟨rfl, trivial⟩ ?_)
   obtain rfl := some_inj h
   exact ⟨rfl, hev⟩
 refine x_fieldAddr (xv := Vp b5 0) (Vp b5 0) rfl rfl rfl (reads_field tfld52_0 _ _) (x_load (xv := Vp b5 0) (Vi p1_0) rfl rfl rfl (reads_box tcell3 hb5 nn 0 _ rfl) (x_u 3 [(19, .bool (decide (p1_0 > 12))), (20, .bool (decide (p1_0 > 12))), (21, .bool (decide (p1_0 > 12)))] (x_if 21 (decide (p1_0 > 12)) rfl h (fun h => ?_) (fun h => ?_))))
 · refine x_u 8 [(22, undef), (23, undef), (24, undef), (25, undef), (26, undef), (27, undef), (28, undef), (29, .bool true)] (x_ek (c_nm [(2, Vp b3 0), (3, Vp b5 0), (29, .bool true)] (fun J => ?_)))
   refine c_true rfl (c_sp (x_u 1 [(4, Vi 1)] (x_ek (c_ret (k_then_ret ?_)))))
   refine r_ret (r_vals [Vi 1] ⟨rfl, trivial⟩ ?_)
   obtain rfl := some_inj h
   exact ⟨rfl, hev⟩
 refine x_fieldAddr (xv := Vp b5 0) (Vp b5 1) rfl rfl rfl (reads_field tfld52_1 _ _) (x_load (xv := Vp b5 1) (Vl a_p1_1 p1_1 c_p1_1) rfl rfl rfl (reads_box tcell22 hb5 nn 1 _ rfl) (x_len (vs := [Vl a_p1_1 p1_1 c_p1_1]) (Vi ((p1_1).length : Int)) rfl rfl rfl (reads_len tsl22 _ _ _ _ _) (x_fieldAddr (xv := Vp b3 0) (Vp b3 0) rfl rfl rfl (reads_field tfld50_0 _ _) (x_load (xv := Vp b3 0) (Vl a_p0_0 p0_0 c_p0_0) rfl rfl rfl (reads_box tcell36 hb3 nn 0 _ rfl) (x_len (vs := [Vl a_p0_0 p0_0 c_p0_0]) (Vi ((p0_0).length : Int)) rfl rfl rfl (reads_len tsl36 _ _ _ _ _) ?_)))))
 refine x_u 2 [(28, .bool (((p1_1).length : Int) != ((p0_0).length : Int))), (29, .bool (((p1_1).length : Int) != ((p0_0).length : Int)))] (x_ek (c_nm [(2, Vp b3 0), (3, Vp b5 0), (29, .bool (((p1_1).length : Int) != ((p0_0).length : Int)))] (fun J => ?_)))
 refine c_if (((p1_1).length : Int) != ((p0_0).length : Int)) rfl h (fun h => ?_) (fun h => ?_)
 · refine c_sp (x_u 1 [(4, Vi 1)] (x_ek (c_ret (k_then_ret (r_ret (r_vals [Vi 1] ⟨rfl, trivial⟩ ?_))))))
   obtain rfl := some_inj h
   exact ⟨rfl, hev⟩
 refine c_skip (k_then (c_seq (c_sp (x_fieldAddr (xv := Vp b5 0) (Vp b5 1) rfl rfl rfl (reads_field tfld52_1 _ _) (x_load (xv := Vp b5 1) (Vl a_p1_1 p1_1 c_p1_1) rfl rfl rfl (reads_box tcell22 hb5 nn 1 _ rfl) ?_)))))
 refine x_len (vs := [Vl a_p1_1 p1_1 c_p1_1]) (Vi ((p1_1).length : Int)) rfl rfl rfl (reads_len tsl22 _ _ _ _ _) (x_u 1 [(33, Vi 0)] (x_ek (c_block ?_)))
 have hpk := hms.pick [some 1, some 0, some 2] [[b3], [b5], M] rfl
 have hsu := pick_sub (ls := [[b5], [b3], M]) [some 1, some 0, some 2] [[b3], [b5], M] rfl
 replace hs_p0_0 := hs_p0_0.sub hsu
 replace hs_p1_1 := hs_p1_1.sub hsu
 replace hms := hpk
 replace hfr := hfr.pick [some 1, some 0] [[b3], [b5]] rfl
 clear hpk hsu
 obtain ⟨d11, hd11, h11⟩ := bind_some h
 obtain ⟨m11, hd11⟩ := loop_some hd11
 refine c_loop (loop_rule hmx (σ := Nat × Int) (fun s => match s with | (_, t33__s33_l11) => [(2, Vp b3 0), (3, Vp b5 0), (31, Vl a_p1_1 p1_1 c_p1_1), (32, Vi ((p1_1).length : Int)), (33, Vi t33__s33_l11)]) (fun s w' => match s with | (m, t33__s33_l11) => loopN (rollin_Valid_L11 p0_0 p0_1 p1_0 p1_1) m t33__s33_l11 = some d11 ∧ Ev [] w w' ∧ MS w' [[b3], [b5], M] ∧ FR w.heap.size [[b3], [b5]] ∧ SlR (eIt4) w' (fl [[b3], [b5], M]) a_p0_0 c_p0_0 p0_0 ∧ w'.heap[b3]? = some (.cells #[Vl a_p0_0 p0_0 c_p0_0, Vi p0_1] 50 (0, 0)) ∧ SlR (eInt .i64) w' (fl [[b3], [b5], M]) a_p1_1 c_p1_1 p1_1 ∧ w'.heap[b5]? = some (.cells #[Vi p1_0, Vl a_p1_1 p1_1 c_p1_1] 52 (0, 0))) (fun s => s.1) (m11, 0) ⟨rfl, rfl, rfl, rfl, rfl, trivial⟩ ⟨hd11, hev, hms, hfr, hs_p0_0, hb3, hs_p1_1, hb5⟩ ?_)
 rintro ⟨m11, t33__s33_l11⟩ J wl11 ⟨hn11, hev, hms, hfr, hs_p0_0, hb3, hs_p1_1, hb5⟩
 rcases m11 with _ | m11
 · exact (loopN_zero hn11).elim
 obtain ⟨t11, h, hn11⟩ := bind_some hn11
 refine c_sp (x_u 1 [(34, .bool (decide (t33__s33_l11 < ((p1_1).length : Int))))] (x_ek (c_nm [(2, Vp b3 0), (3, Vp b5 0), (31, Vl a_p1_1 p1_1 c_p1_1), (32, Vi ((p1_1).length : Int)), (33, Vi t33__s33_l11), (34, .bool (decide (t33__s33_l11 < ((p1_1).length : Int))))] (fun J => ?_))))
 refine c_seq (c_if (decide (t33__s33_l11 < ((p1_1).length : Int))) rfl h (fun h => ?_) (fun h => ?_))
 · refine c_skip (k_then (c_seq (c_block (c_sp (x_u 1 [(35, Vi t33__s33_l11)] ?_)))))
   obtain ⟨x13, hx13, h⟩ := bind_some h
   obtain ⟨ad13, cs13, hr13, hc13, hR⟩ := reads_index (Mo := []) tsl22 hs_p1_1 hx13
   obtain rfl := hR
   refine x_indexAddr (xv := Vl a_p1_1 p1_1 c_p1_1) (yv := Vi t33__s33_l11) (.pointer (some ad13)) rfl rfl rfl rfl hr13 (x_load (xv := .pointer (some ad13)) (Vi x13) rfl rfl rfl (reads_cell0 tcell3 hc13 (fun _ h => by cases h)) ?_)
   refine x_u 2 [(6, Vi t33__s33_l11), (7, Vi x13)] (x_ek (c_seq (c_drawn [] [(0, false), (1, false), (2, false), (3, false), (4, false), (5, false), (6, false), (7, false), (8, false), (9, true), (10, false), (11, false), (12, false), (13, false), (14, false), (15, false), (16, false), (17, false)] _ (by kernel_rfl) rfl ?_)))
   have hst := Stp.ext (ls := [[b3], [b5], M]) (Ev.drew wl11)
   replace hb3 := (Ev.drew wl11).box hb3 nn
   replace hs_p0_0 := hs_p0_0.step hst
   replace hb5 := (Ev.drew wl11).box hb5 nn
   replace hs_p1_1 := hs_p1_1.step hst
   replace hms := hms.ev (Ev.drew wl11)
   replace hev := hev.ext (Ev.drew wl11)
   refine x_u 1 [(38, Vi x13)] (x_fieldAddr (xv := Vp b3 0) (Vp b3 0) rfl rfl rfl (reads_field tfld50_0 _ _) (x_load (xv := Vp b3 0) (Vl a_p0_0 p0_0 c_p0_0) rfl rfl rfl (reads_box tcell36 hb3 nn 0 _ rfl) (x_u 1 [(41, Vi t33__s33_l11)] ?_)))
   obtain ⟨x15, hx15, h⟩ := bind_some h
   obtain ⟨ad15, cs15, hr15, hc15, hR⟩ := reads_index (Mo := []) tsl36 hs_p0_0 hx15
   obtain ⟨_, _, rfl, rfl, ⟨_, _, rfl, rfl, ⟨_, _, rfl, rfl, rfl⟩⟩⟩ := hR
   refine x_indexAddr (xv := Vl a_p0_0 p0_0 c_p0_0) (yv := Vi t33__s33_l11) (.pointer (some ad15)) rfl rfl rfl rfl hr15 (x_fieldAddr (xv := .pointer (some ad15)) (.pointer (some (Addr.add ad15 2))) rfl rfl rfl (reads_field tfld76_2 _ _) (x_load (xv := .pointer (some (Addr.add ad15 2))) (Vi x15.2.2.1) rfl rfl rfl (reads_cell tcell3 hc15 (fun _ h => by cases h) 2 _ rfl) ?_))
   refine x_fieldAddr (xv := Vp b3 0) (Vp b3 1) rfl rfl rfl (reads_field tfld50_1 _ _) (x_load (xv := Vp b3 1) (Vi p0_1) rfl rfl rfl (reads_box tcell3 hb3 nn 1 _ rfl) ?_)
   obtain ⟨x17, hx, h⟩ := bind_some h
   have hcall := code_Is_w x13 x15.2.2.1 p0_1 _ (wl11).drew hx
   refine x_call 85 #[] #[] [Vi x13, Vi x15.2.2.1, Vi p0_1] _ rfl rfl rfl rfl hcall ?_
   rintro v w18 ⟨rfl, he18⟩
   clear hcall hx
   refine inl1 ?_
   have hst := Stp.ext (ls := [[b3], [b5], M]) he18
   replace hb3 := he18.box hb3 nn
   replace hs_p0_0 := hs_p0_0.step hst
   replace hb5 := he18.box hb5 nn
   replace hs_p1_1 := hs_p1_1.step hst
   replace hms := hms.ev he18
   replace hev := hev.ext he18
   refine x_u 2 [(48, .bool (!x17)), (49, .bool (!x17))] (x_if 49 (!x17) rfl h (fun h => ?_) (fun h => ?_))
   · refine x_u 6 [(50, undef), (51, undef), (52, undef), (53, undef), (54, undef), (55, .bool true)] (x_ek (c_nm [(2, Vp b3 0), (3, Vp b5 0), (31, Vl a_p1_1 p1_1 c_p1_1), (32, Vi ((p1_1).length : Int)), (33, Vi t33__s33_l11), (55, .bool true)] (fun J => ?_)))
     refine c_true rfl (c_sp (x_u 1 [(4, Vi 1)] (x_ek (c_ret (k_block_ret ?_)))))
     refine k_then_ret ?_
     obtain rfl := some_inj h
     have hy := some_inj hn11
     subst hy
     replace h := h11
     refine k_then_ret (k_block_ret (k_then_ret (r_ret (r_vals [Vi 1] ⟨rfl, trivial⟩ ?_))))
     obtain rfl := some_inj h
     exact ⟨rfl, hev⟩
   refine x_u 1 [(50, Vi x13)] (x_fieldAddr (xv := Vp b5 0) (Vp b5 0) rfl rfl rfl (reads_field tfld52_0 _ _) (x_load (xv := Vp b5 0) (Vi p1_0) rfl rfl rfl (reads_box tcell3 hb5 nn 0 _ rfl) (x_binop (Vi (Int.fdiv x13 (2 ^ (min (Int.toNat (p1_0)) IntKind.i64.bits)))) (Vi x13) (Vi p1_0) rfl rfl rfl rfl (vb_shr (guard_l h)) ?_)))
   replace h := guard_r h
   refine x_u 2 [(54, .bool ((Int.fdiv x13 (2 ^ (min (Int.toNat (p1_0)) IntKind.i64.bits))) != 0)), (55, .bool ((Int.fdiv x13 (2 ^ (min (Int.toNat (p1_0)) IntKind.i64.bits))) != 0))] (x_ek (c_nm [(2, Vp b3 0), (3, Vp b5 0), (31, Vl a_p1_1 p1_1 c_p1_1), (32, Vi ((p1_1).length : Int)), (33, Vi t33__s33_l11), (55, .bool ((Int.fdiv x13 (2 ^ (min (Int.toNat (p1_0)) IntKind.i64.bits))) != 0))] (fun J => ?_)))
   refine c_if ((Int.fdiv x13 (2 ^ (min (Int.toNat (p1_0)) IntKind.i64.bits))) != 0) rfl h (fun h => ?_) (fun h => ?_)
   · refine c_sp (x_u 1 [(4, Vi 1)] (x_ek (c_ret (k_block_ret (k_then_ret ?_)))))
     obtain rfl := some_inj h
     have hy := some_inj hn11
     subst hy
     replace h := h11
     refine k_then_ret (k_block_ret (k_then_ret (r_ret (r_vals [Vi 1] ⟨rfl, trivial⟩ ?_))))
     obtain rfl := some_inj h
     exact ⟨rfl, hev⟩
   refine c_skip (k_block (k_then (c_plain (x_u 2 [(56, Vi (IntKind.i64.wrap (t33__s33_l11 + 1))), (33, Vi (IntKind.i64.wrap (t33__s33_l11 + 1)))] (x_end rfl ?_)))))
   obtain rfl := some_inj h
   exact k_then ⟨(m11, IntKind.i64.wrap (t33__s33_l11 + 1)), ⟨rfl, rfl, rfl, rfl, rfl, trivial⟩, ⟨hn11, hev, hms, hfr, hs_p0_0, hb3, hs_p1_1, hb5⟩, Nat.lt_succ_self _⟩
 refine c_exit (k_then_exit ?_)
 obtain rfl := some_inj h
 have hy := some_inj hn11
 subst hy
 replace h := h11
 refine k_then_exit (k_block_in (k_then (c_norm [] trivial (fun J => ?_))))
 refine c_sp (x_u 1 [(4, Vi 0)] (x_ek (c_ret (r_ret (r_vals [Vi 0] ⟨rfl, trivial⟩ ?_)))))
 obtain rfl := some_inj h
 exact ⟨rfl, hev⟩
def rollin_start_L20 (x15 : Int × Int × Int × Int) (s : (List (List Int))) : Option (Step (List (List Int)) (List (List Int))) :=
match s with
| d13_l20 =>
(if (decide (((d13_l20).length : Int) ≤ x15.1)) = true then
(if d13_l20.length + 1 ≤ 4294967296 then
some (.next (d13_l20 ++ [([] : List Int)]))
else none)
else
some (.done d13_l20))
def rollin_start_L11 (p0_0 : List (Int × Int × Int × Int)) (s : (List (List Int)) × Int) : Option (Step ((List (List Int)) × Int) (List (List Int))) :=
match s with
| (d13_l11, t18__s18_l11) =>
(if (decide (t18__s18_l11 < ((p0_0).length : Int))) = true then
((idx p0_0 t18__s18_l11).bind fun x15 =>
((loop (rollin_start_L20 x15) d13_l11).bind fun d => match d with
| d13_x20 => some (.next (d13_x20, IntKind.i64.wrap (t18__s18_l11 + 1)))))
else
some (.done d13_l11))
def rollin_start (p0_0 : List (Int × Int × Int × Int)) (p0_1 : Int) (p1_0 : Int) (p1_1 : List Int) : Option (((List (Int × Int × Int × Int)) × Int) × (Int × (List Int)) × (List (List Int)) × (List (List Int)) × Int × Int) :=
(if (0 : Int) ≤ p1_0 ∧ (p1_0 : Int) ≤ 4294967296 then
((loop (rollin_start_L11 p0_0) (([] : List (List Int)), 0)).bind fun d => match d with
| d13_x11 => some ((p0_0, p0_1), (p1_0, p1_1), (List.replicate (Int.toNat p1_0) ([] : List Int)), d13_x11, 0, 0))
else none)
theorem rollin_start_w (a_p0_0 : Option Addr) (c_p0_0 : Nat) (p0_0 : List (Int × Int × Int × Int)) (p0_1 : Int) (p1_0 : Int) (a_p1_1 : Option Addr) (c_p1_1 : Nat) (p1_1 : List Int) (r : (((List (Int × Int × Int × Int)) × Int) × (Int × (List Int)) × (List (List Int)) × (List (List Int)) × Int × Int)) (w : World) (M : List Nat) (hms : MS w [M]) (hs_p0_0 : SlR (eIt4) w (fl [M]) a_p0_0 c_p0_0 p0_0) (hs_p1_1 : SlR (eInt .i64) w (fl [M]) a_p1_1 c_p1_1 p1_1) (h : rollin_start p0_0 p0_1 p1_0 p1_1 = some r) : CallVC Tryz.prog 70 [.agg #[Vl a_p0_0 p0_0 c_p0_0, Vi p0_1], .agg #[Vi p1_0, Vl a_p1_1 p1_1 c_p1_1]] w fun v w' => ∃ (b0' : Nat), ∃ (a1' : Option Addr), ∃ (c1' : Nat), ∃ (a3' : Option Addr), ∃ (c3' : Nat), ∃ (a5' : Option Addr), ∃ (c5' : Nat), ∃ (B7' : List Nat), ∃ (a8' : Option Addr), ∃ (c8' : Nat), ∃ (B10' : List Nat), v = .pointer (some ⟨b0', 0, none⟩) ∧ Ev [] w w' ∧ MS w' [[b0'], B7', B10', M] ∧ FR w.heap.size [[b0'], B7', B10'] ∧ w'.heap[b0']? = some (.cells #[Vl a1' r.1.1 c1', Vi r.1.2, Vi r.2.1.1, Vl a3' r.2.1.2 c3', Vl a5' r.2.2.1 c5', Vl a8' r.2.2.2.1 c8', Vi r.2.2.2.2.1, Vi r.2.2.2.2.2] 109 (0, 0)) ∧ SlR (eIt4) w' (fl [[b0'], B7', B10', M]) a1' c1' r.1.1 ∧ SlR (eInt .i64) w' (fl [[b0'], B7', B10', M]) a3' c3' r.2.1.2 ∧ OwnR (eInt .i64) 3 22 w' B7' a5' c5' r.2.2.1 none ∧ OwnR (eInt .i64) 3 22 w' B10' a8' c8' r.2.2.2.1 none := by
 refine calls_vc hmx Tryz.func70 (by kernel_rfl) rfl (rs := [.tmp 4]) rfl (by kernel_rfl) (args := [.agg #[Vl a_p0_0 p0_0 c_p0_0, Vi p0_1], .agg #[Vi p1_0, Vl a_p1_1 p1_1 c_p1_1]]) rfl ?_
 have hev : Ev [] w w := Ev.refl _ _
 have hfr : FR w.heap.size [] := FR.nil _
 refine c_sp (x_box (xv := .agg #[Vl a_p0_0 p0_0 c_p0_0, Vi p0_1]) rfl rfl rfl (fun b3 w3 hq3 hb3 he3 hz3 => ?_))
 replace hb3 : w3.heap[b3]? = some (.cells #[Vl a_p0_0 p0_0 c_p0_0, Vi p0_1] 50 (0, 0)) := hb3
 refine inl1 ?_
 have hst := Stp.box (ls := [M]) he3 hq3
 replace hs_p0_0 := hs_p0_0.step hst
 replace hs_p1_1 := hs_p1_1.step hst
 replace hms := hms.box he3 hq3 hb3
 replace hfr := hfr.box hev.size hq3
 replace hev := hev.ext he3
 refine x_box (xv := .agg #[Vi p1_0, Vl a_p1_1 p1_1 c_p1_1]) rfl rfl rfl (fun b5 w5 hq5 hb5 he5 hz5 => ?_)
 replace hb5 : w5.heap[b5]? = some (.cells #[Vi p1_0, Vl a_p1_1 p1_1 c_p1_1] 52 (0, 0)) := hb5
 refine inl1 ?_
 have hst := Stp.box (ls := [[b3], M]) he5 hq5
 replace hs_p0_0 := hs_p0_0.step hst
 replace hs_p1_1 := hs_p1_1.step hst
 replace hb3 := he5.box hb3 nn
 replace hms := hms.box he5 hq5 hb5
 replace hfr := hfr.box hev.size hq5
 replace hev := hev.ext he5
 refine x_u 1 [(4, .pointer none)] (x_ek (c_seq (c_drawn [] [(0, false), (1, false), (2, false), (3, false), (4, false), (5, false), (6, true), (7, false)] _ (by kernel_rfl) rfl ?_)))
 have hst := Stp.ext (ls := [[b5], [b3], M]) (Ev.drew w5)
 replace hs_p0_0 := hs_p0_0.step hst
 replace hs_p1_1 := hs_p1_1.step hst
 replace hb3 := (Ev.drew w5).box hb3 nn
 replace hb5 := (Ev.drew w5).box hb5 nn
 replace hms := hms.ev (Ev.drew w5)
 replace hev := hev.ext (Ev.drew w5)
 refine x_load (xv := Vp b3 0) (.agg #[Vl a_p0_0 p0_0 c_p0_0, Vi p0_1]) rfl rfl rfl (reads_boxagg 0 [Vl a_p0_0 p0_0 c_p0_0, Vi p0_1] tagg50 hb3 nn rfl) (x_load (xv := Vp b5 0) (.agg #[Vi p1_0, Vl a_p1_1 p1_1 c_p1_1]) rfl rfl rfl (reads_boxagg 0 [Vi p1_0, Vl a_p1_1 p1_1 c_p1_1] tagg52 hb5 nn rfl) (x_fieldAddr (xv := Vp b5 0) (Vp b5 0) rfl rfl rfl (reads_field tfld52_0 _ _) (x_load (xv := Vp b5 0) (Vi p1_0) rfl rfl rfl (reads_box tcell3 hb5 nn 0 _ rfl) ?_)))
 have hg := guard_l h
 replace h := guard_r h
 obtain ⟨a7, c7, w7, B7, hr7, he7, hn7, ho7⟩ := OwnR.mk (P := Tryz.prog) (T := 3) (eInt .i64) tel57 (w5).drew p1_0 hg.1 hg.2
 refine x_makeSlice _ w7 (xv := Vi p1_0) (yv := Vi p1_0) rfl rfl rfl rfl hr7 (⟨.inr he7, ?_⟩)
 have hst := Stp.push (ls := [[b5], [b3], M]) (l := B7) he7 (fun _ h => by cases h) (fun b hb => (hn7 b hb).1)
 replace hs_p0_0 := hs_p0_0.step hst
 replace hs_p1_1 := hs_p1_1.step hst
 replace hb3 := he7.box hb3 nn
 replace hms := hms.push he7 hn7
 replace hfr := hfr.push (fun b hb => Nat.le_trans hev.size (hn7 b hb).1)
 replace hev := hev.ext he7
 refine x_build (vs := [(0, .agg #[Vl a_p0_0 p0_0 c_p0_0, Vi p0_1]), (1, .agg #[Vi p1_0, Vl a_p1_1 p1_1 c_p1_1]), (2, .slice a7 ((List.replicate (Int.toNat p1_0) ([] : List Int))).length c7)]) (.agg #[Vl a_p0_0 p0_0 c_p0_0, Vi p0_1, Vi p1_0, Vl a_p1_1 p1_1 c_p1_1, .slice a7 ((List.replicate (Int.toNat p1_0) ([] : List Int))).length c7, .slice none 0 0, Vi 0, Vi 0]) rfl rfl rfl (fun _ _ => by kernel_rfl) ?_
 refine x_box (xv := .agg #[Vl a_p0_0 p0_0 c_p0_0, Vi p0_1, Vi p1_0, Vl a_p1_1 p1_1 c_p1_1, .slice a7 ((List.replicate (Int.toNat p1_0) ([] : List Int))).length c7, .slice none 0 0, Vi 0, Vi 0]) rfl rfl rfl (fun b9 w9 hq9 hb9 he9 hz9 => ?_)
 replace hb9 : w9.heap[b9]? = some (.cells #[Vl a_p0_0 p0_0 c_p0_0, Vi p0_1, Vi p1_0, Vl a_p1_1 p1_1 c_p1_1, .slice a7 ((List.replicate (Int.toNat p1_0) ([] : List Int))).length c7, .slice none 0 0, Vi 0, Vi 0] 109 (0, 0)) := hb9
 refine inl1 ?_
 have hst := Stp.box (ls := [B7, [b5], [b3], M]) he9 hq9
 replace hs_p0_0 := hs_p0_0.step hst
 replace hs_p1_1 := hs_p1_1.step hst
 replace hb3 := he9.box hb3 nn
 replace ho7 := ho7.step (plain_int _) he9 nn2
 replace hms := hms.box he9 hq9 hb9
 replace hfr := hfr.box hev.size hq9
 replace hev := hev.ext he9
 refine x_u 1 [(5, Vp b9 0)] (x_ek (c_seq (c_sp (x_fieldAddr (xv := Vp b3 0) (Vp b3 0) rfl rfl rfl (reads_field tfld50_0 _ _) (x_load (xv := Vp b3 0) (Vl a_p0_0 p0_0 c_p0_0) rfl rfl rfl (reads_box tcell36 hb3 nn 0 _ rfl) ?_)))))
 refine x_len (vs := [Vl a_p0_0 p0_0 c_p0_0]) (Vi ((p0_0).length : Int)) rfl rfl rfl (reads_len tsl36 _ _ _ _ _) (x_u 1 [(18, Vi 0)] (x_ek (c_nm [(5, Vp b9 0), (16, Vl a_p0_0 p0_0 c_p0_0), (17, Vi ((p0_0).length : Int)), (18, Vi 0)] (fun J => ?_))))
 refine c_block ?_
 have hst := Stp.push (ls := [[b9], B7, [b5], [b3], M]) (l := ([] : List Nat)) (Ev.refl [] w9) (fun _ h => by cases h) (fun _ h => by cases h)
 replace hs_p0_0 := hs_p0_0.step hst
 replace hs_p1_1 := hs_p1_1.step hst
 replace ho7 := ho7.step (plain_int _) (Ev.refl [] _) nn2
 replace hb9 := (Ev.refl [] _).box hb9 nn
 replace hms := hms.push (l := ([] : List Nat)) (Ev.refl [] _) (fun _ h => by cases h)
 replace hfr := hfr.push (l := ([] : List Nat)) (fun _ h => by cases h)
 have ho12 := OwnR.nil (eInt .i64) 3 22 w9 ([] : List Nat)
 have hpk := hms.pick [some 2, some 0, some 1, some 5] [B7, ([] : List Nat), [b9], M] rfl
 have hsu := pick_sub (ls := [([] : List Nat), [b9], B7, [b5], [b3], M]) [some 2, some 0, some 1, some 5] [B7, ([] : List Nat), [b9], M] rfl
 replace hs_p0_0 := hs_p0_0.sub hsu
 replace hs_p1_1 := hs_p1_1.sub hsu
 replace hms := hpk
 replace hfr := hfr.pick [some 2, some 0, some 1] [B7, ([] : List Nat), [b9]] rfl
 clear hpk hsu
 obtain ⟨d11, hd11, h11⟩ := bind_some h
 obtain ⟨m11, hd11⟩ := loop_some hd11
 refine c_loop (loop_rule hmx (σ := Nat × (List (List Int)) × Int × Option Addr × Nat × List Nat) (fun s => match s with | (_, d13_l11, t18__s18_l11, a13_l11, c13_l11, B13_l11) => [(5, Vp b9 0), (16, Vl a_p0_0 p0_0 c_p0_0), (17, Vi ((p0_0).length : Int)), (18, Vi t18__s18_l11)]) (fun s w' => match s with | (m, d13_l11, t18__s18_l11, a13_l11, c13_l11, B13_l11) => loopN (rollin_start_L11 p0_0) m (d13_l11, t18__s18_l11) = some d11 ∧ Ev [] w w' ∧ MS w' [B7, B13_l11, [b9], M] ∧ FR w.heap.size [B7, B13_l11, [b9]] ∧ SlR (eIt4) w' (fl [B7, B13_l11, [b9], M]) a_p0_0 c_p0_0 p0_0 ∧ SlR (eInt .i64) w' (fl [B7, B13_l11, [b9], M]) a_p1_1 c_p1_1 p1_1 ∧ OwnR (eInt .i64) 3 22 w' B7 a7 c7 (List.replicate (Int.toNat p1_0) ([] : List Int)) none ∧ OwnR (eInt .i64) 3 22 w' B13_l11 a13_l11 c13_l11 d13_l11 none ∧ w'.heap[b9]? = some (.cells #[Vl a_p0_0 p0_0 c_p0_0, Vi p0_1, Vi p1_0, Vl a_p1_1 p1_1 c_p1_1, .slice a7 ((List.replicate (Int.toNat p1_0) ([] : List Int))).length c7, Vl a13_l11 d13_l11 c13_l11, Vi 0, Vi 0] 109 (0, 0))) (fun s => s.1) (m11, ([] : List (List Int)), 0, none, 0, ([] : List Nat)) ⟨rfl, rfl, rfl, rfl, trivial⟩ ⟨hd11, hev, hms, hfr, hs_p0_0, hs_p1_1, ho7, ho12, hb9⟩ ?_)
 rintro ⟨m11, d13_l11, t18__s18_l11, a13_l11, c13_l11, B13_l11⟩ J wl11 ⟨hn11, hev, hms, hfr, hs_p0_0, hs_p1_1, ho7, hj13_l11, hb9⟩
 rcases m11 with _ | m11
 · exact (loopN_zero hn11).elim
 obtain ⟨t11, h, hn11⟩ := bind_some hn11
 refine c_sp (x_u 1 [(19, .bool (decide (t18__s18_l11 < ((p0_0).length : Int))))] (x_ek (c_nm [(5, Vp b9 0), (16, Vl a_p0_0 p0_0 c_p0_0), (17, Vi ((p0_0).length : Int)), (18, Vi t18__s18_l11), (19, .bool (decide (t18__s18_l11 < ((p0_0).length : Int))))] (fun J => ?_))))
 refine c_seq (c_if (decide (t18__s18_l11 < ((p0_0).length : Int))) rfl h (fun h => ?_) (fun h => ?_))
 · refine c_skip (k_then (c_seq (c_block (c_sp ?_))))
   obtain ⟨x15, hx15, h⟩ := bind_some h
   obtain ⟨ad15, cs15, hr15, hc15, hR⟩ := reads_index (Mo := []) tsl36 hs_p0_0 hx15
   obtain ⟨_, _, rfl, rfl, ⟨_, _, rfl, rfl, ⟨_, _, rfl, rfl, rfl⟩⟩⟩ := hR
   refine x_indexAddr (xv := Vl a_p0_0 p0_0 c_p0_0) (yv := Vi t18__s18_l11) (.pointer (some ad15)) rfl rfl rfl rfl hr15 (x_load (xv := .pointer (some ad15)) (.agg #[Vi x15.1, Vi x15.2.1, Vi x15.2.2.1, Vi x15.2.2.2]) rfl rfl rfl (reads_agg tagg76 hc15 (fun _ h => by cases h)) ?_)
   refine x_alloc (z := .agg #[Vi 0, Vi 0, Vi 0, Vi 0]) rfl rfl (by kernel_rfl) (fun b17 w17 hq17 hb17 he17 hz17 => ?_)
   replace hb17 : w17.heap[b17]? = some (.cells #[Vi 0, Vi 0, Vi 0, Vi 0] 76 (0, 0)) := hb17
   refine inl1 ?_
   have hst := Stp.box (ls := [B7, B13_l11, [b9], M]) he17 hq17
   replace hb9 := he17.box hb9 nn
   replace hs_p0_0 := hs_p0_0.step hst
   replace hs_p1_1 := hs_p1_1.step hst
   replace ho7 := ho7.step (plain_int _) he17 nn2
   replace hj13_l11 := hj13_l11.step (plain_int _) he17 nn2
   replace hms := hms.box he17 hq17 hb17
   replace hfr := hfr.box hev.size hq17
   replace hev := hev.ext he17
   obtain ⟨w19, hr19, hb19, he19⟩ := store_boxagg 0 [Vi x15.1, Vi x15.2.1, Vi x15.2.2.1, Vi x15.2.2.2] #[Vi x15.1, Vi x15.2.1, Vi x15.2.2.1, Vi x15.2.2.2] tagg76 hb17 rfl rfl rfl
   refine x_store w19 (xv := Vp b17 0) (yv := .agg #[Vi x15.1, Vi x15.2.1, Vi x15.2.2.1, Vi x15.2.2.2]) rfl rfl rfl rfl hr19 (inl1 ?_)
   have hst := Stp.ev' (ls := [[b17], B7, B13_l11, [b9], M]) he19 (mem_flat 0 rfl)
   replace hb9 := he19.box hb9 (hms.apart 3 0 rfl rfl rfl _ mem1)
   replace hs_p0_0 := hs_p0_0.step hst
   replace hs_p1_1 := hs_p1_1.step hst
   replace ho7 := ho7.step (plain_int _) he19 (hms.apart 1 0 rfl rfl rfl)
   replace hj13_l11 := hj13_l11.step (plain_int _) he19 (hms.apart 2 0 rfl rfl rfl)
   replace hms := hms.ev he19
   replace hev := hev.then he19 (fun b hb => .inr (hfr.at 0 rfl b hb))
   replace hb17 := hb19
   refine x_ek (c_block ?_)
   have hpk := hms.pick [some 1, some 2, some 3, some 0, some 4] [B7, B13_l11, [b9], [b17], M] rfl
   have hsu := pick_sub (ls := [[b17], B7, B13_l11, [b9], M]) [some 1, some 2, some 3, some 0, some 4] [B7, B13_l11, [b9], [b17], M] rfl
   replace hs_p0_0 := hs_p0_0.sub hsu
   replace hs_p1_1 := hs_p1_1.sub hsu
   replace hms := hpk
   replace hfr := hfr.pick [some 1, some 2, some 3, some 0] [B7, B13_l11, [b9], [b17]] rfl
   clear hpk hsu
   obtain ⟨d20, hd20, h20⟩ := bind_some h
   obtain ⟨m20, hd20⟩ := loop_some hd20
   refine c_loop (loop_rule hmx (σ := Nat × (List (List Int)) × Option Addr × Nat × List Nat) (fun s => match s with | (_, d13_l20, a13_l20, c13_l20, B13_l20) => [(5, Vp b9 0), (7, Vp b17 0), (16, Vl a_p0_0 p0_0 c_p0_0), (17, Vi ((p0_0).length : Int)), (18, Vi t18__s18_l11)]) (fun s w' => match s with | (m, d13_l20, a13_l20, c13_l20, B13_l20) => loopN (rollin_start_L20 x15) m d13_l20 = some d20 ∧ Ev [] w w' ∧ MS w' [B7, B13_l20, [b9], [b17], M] ∧ FR w.heap.size [B7, B13_l20, [b9], [b17]] ∧ SlR (eIt4) w' (fl [B7, B13_l20, [b9], [b17], M]) a_p0_0 c_p0_0 p0_0 ∧ SlR (eInt .i64) w' (fl [B7, B13_l20, [b9], [b17], M]) a_p1_1 c_p1_1 p1_1 ∧ OwnR (eInt .i64) 3 22 w' B7 a7 c7 (List.replicate (Int.toNat p1_0) ([] : List Int)) none ∧ OwnR (eInt .i64) 3 22 w' B13_l20 a13_l20 c13_l20 d13_l20 none ∧ w'.heap[b9]? = some (.cells #[Vl a_p0_0 p0_0 c_p0_0, Vi p0_1, Vi p1_0, Vl a_p1_1 p1_1 c_p1_1, .slice a7 ((List.replicate (Int.toNat p1_0) ([] : List Int))).length c7, Vl a13_l20 d13_l20 c13_l20, Vi 0, Vi 0] 109 (0, 0)) ∧ w'.heap[b17]? = some (.cells #[Vi x15.1, Vi x15.2.1, Vi x15.2.2.1, Vi x15.2.2.2] 76 (0, 0))) (fun s => s.1) (m20, d13_l11, a13_l11, c13_l11, B13_l11) ⟨rfl, rfl, rfl, rfl, rfl, trivial⟩ ⟨hd20, hev, hms, hfr, hs_p0_0, hs_p1_1, ho7, hj13_l11, hb9, hb17⟩ ?_)
   rintro ⟨m20, d13_l20, a13_l20, c13_l20, B13_l20⟩ J wl20 ⟨hn20, hev, hms, hfr, hs_p0_0, hs_p1_1, ho7, hj13_l11, hb9, hb17⟩
   rcases m20 with _ | m20
   · exact (loopN_zero hn20).elim
   obtain ⟨t20, h, hn20⟩ := bind_some hn20
   refine c_seq (c_seq (c_drawn [] [(0, false), (1, false), (2, false), (3, false), (4, false), (5, false), (6, false), (7, false)] _ (by kernel_rfl) rfl ?_))
   have hst := Stp.ext (ls := [B7, B13_l20, [b9], [b17], M]) (Ev.drew wl20)
   replace hb9 := (Ev.drew wl20).box hb9 nn
   replace hs_p0_0 := hs_p0_0.step hst
   replace hs_p1_1 := hs_p1_1.step hst
   replace ho7 := ho7.step (plain_int _) (Ev.drew wl20) nn2
   replace hj13_l11 := hj13_l11.step (plain_int _) (Ev.drew wl20) nn2
   replace hb17 := (Ev.drew wl20).box hb17 nn
   replace hms := hms.ev (Ev.drew wl20)
   replace hev := hev.ext (Ev.drew wl20)
   refine x_u 2 [(22, Vp b9 0), (23, Vp b9 0)] (x_fieldAddr (xv := Vp b9 0) (Vp b9 5) rfl rfl rfl (reads_field tfld109_3 _ _) (x_load (xv := Vp b9 5) (Vl a13_l20 d13_l20 c13_l20) rfl rfl rfl (reads_box tcell57 hb9 nn 5 _ rfl) (x_len (vs := [Vl a13_l20 d13_l20 c13_l20]) (Vi ((d13_l20).length : Int)) rfl rfl rfl (reads_len tsl57 _ _ _ _ _) (x_fieldAddr (xv := Vp b17 0) (Vp b17 0) rfl rfl rfl (reads_field tfld76_0 _ _) (x_load (xv := Vp b17 0) (Vi x15.1) rfl rfl rfl (reads_box tcell3 hb17 nn 0 _ rfl) ?_)))))
   refine x_u 1 [(29, .bool (decide (((d13_l20).length : Int) ≤ x15.1)))] (x_ek (c_nm [(5, Vp b9 0), (7, Vp b17 0), (16, Vl a_p0_0 p0_0 c_p0_0), (17, Vi ((p0_0).length : Int)), (18, Vi t18__s18_l11), (29, .bool (decide (((d13_l20).length : Int) ≤ x15.1)))] (fun J => ?_)))
   refine c_if (decide (((d13_l20).length : Int) ≤ x15.1)) rfl h (fun h => ?_) (fun h => ?_)
   · refine c_skip (k_then (c_block (c_plain (x_u 3 [(30, Vp b9 0), (31, Vp b9 0), (32, Vp b9 0)] (x_fieldAddr (xv := Vp b9 0) (Vp b9 5) rfl rfl rfl (reads_field tfld109_3 _ _) ?_)))))
     refine x_load (xv := Vp b9 5) (Vl a13_l20 d13_l20 c13_l20) rfl rfl rfl (reads_box tcell57 hb9 nn 5 _ rfl) (x_buildSlice (vs := [(0, .slice none 0 0)]) #[.slice none 0 0] 22 rfl rfl rfl (by kernel_rfl) (fun b22 w22 hq22 hb22 he22 hz22 => ?_))
     refine inl1 ?_
     have hms0 := hms
     have hst := Stp.ext (ls := [B7, B13_l20, [b9], [b17], M]) he22
     replace hb9 := he22.box hb9 nn
     replace hs_p0_0 := hs_p0_0.step hst
     replace hs_p1_1 := hs_p1_1.step hst
     replace ho7 := ho7.step (plain_int _) he22 nn2
     replace hj13_l11 := hj13_l11.step (plain_int _) he22 nn2
     replace hb17 := he22.box hb17 nn
     replace hms := hms.ev he22
     replace hev := hev.ext he22
     have hs22 : SlR eHdr w22 (fl [B7, B13_l20, [b9], [b17], M]) (Ad b22 0) 1 ([(none, 0, 0)] : List (Option Addr × Nat × Nat)) := ro_of_box hms0 hq22 hb22 rfl rfl (cells_at (cs := [.slice none 0 0]) (CellsOf.cons (c := [.slice none 0 0]) rfl CellsOf.nil))
     clear hb22 hms0
     have hg := guard_l h
     replace h := guard_r h
     obtain ⟨a24, c24, w24, B24, hr24, he24, hez24, hn24, hR24⟩ := OwnR.app (P := Tryz.prog) (plain_int _) tel57 57 hj13_l11 hs22 (mem_flat 1 rfl) (OwnS.nil (eInt .i64) 3 w22 []) (fun x hx => by cases hx) (hms.ltat 1 rfl) hg
     refine x_builtin (vs := [Vl a13_l20 d13_l20 c13_l20, .slice (Ad b22 0) (([(none, 0, 0)] : List (Option Addr × Nat × Nat))).length 1]) _ w24 rfl rfl rfl rfl (run_value _ _ _ _ hr24) (inl1 ?_)
     have hst : Stp (fl [B7, B13_l20, [b9], [b17], M]) w22 (fl [B7, B24, [b9], [b17], M]) w24 := Stp.upd 1 he24 rfl (fun b hb => (hn24 b hb).1)
     replace hb9 := he24.box hb9 (hms.apart 2 1 rfl rfl rfl _ mem1)
     replace hs_p0_0 := hs_p0_0.step hst
     replace hs_p1_1 := hs_p1_1.step hst
     replace ho7 := ho7.step (plain_int _) he24 (hms.apart 0 1 rfl rfl rfl)
     replace hb17 := he24.box hb17 (hms.apart 3 1 rfl rfl rfl _ mem1)
     replace hms : MS w24 [B7, B24, [b9], [b17], M] := hms.upd 1 he24 rfl hn24
     have hfr2 : FR w.heap.size [B7, B24, [b9], [b17]] := hfr.upd 1 rfl hev.size (fun b hb => (hn24 b hb).1)
     replace hev := hev.then he24 (fun b hb => .inr (hfr.at 1 rfl b hb))
     replace hfr := hfr2
     clear hfr2
     replace hj13_l11 := hR24
     refine x_u 1 [(37, Vp b9 0)] (x_fieldAddr (xv := Vp b9 0) (Vp b9 5) rfl rfl rfl (reads_field tfld109_3 _ _) ?_)
     obtain ⟨w25, hr25, hb25, he25⟩ := store_box 5 (.slice a24 ((d13_l20 ++ [([] : List Int)])).length c24) #[Vl a_p0_0 p0_0 c_p0_0, Vi p0_1, Vi p1_0, Vl a_p1_1 p1_1 c_p1_1, .slice a7 ((List.replicate (Int.toNat p1_0) ([] : List Int))).length c7, .slice a24 ((d13_l20 ++ [([] : List Int)])).length c24, Vi 0, Vi 0] tcell57 hb9 rfl rfl rfl
     refine x_store w25 (xv := Vp b9 5) (yv := .slice a24 ((d13_l20 ++ [([] : List Int)])).length c24) rfl rfl rfl rfl hr25 (inl1 ?_)
     have hst := Stp.ev' (ls := [B7, B24, [b9], [b17], M]) he25 (mem_flat 2 rfl)
     replace hs_p0_0 := hs_p0_0.step hst
     replace hs_p1_1 := hs_p1_1.step hst
     replace ho7 := ho7.step (plain_int _) he25 (hms.apart 0 2 rfl rfl rfl)
     replace hj13_l11 := hj13_l11.step (plain_int _) he25 (hms.apart 1 2 rfl rfl rfl)
     replace hb17 := he25.box hb17 (hms.apart 3 2 rfl rfl rfl _ mem1)
     replace hms := hms.ev he25
     replace hev := hev.then he25 (fun b hb => .inr (hfr.at 2 rfl b hb))
     replace hb9 := hb25
     refine x_end rfl (k_block ?_)
     obtain rfl := some_inj h
     exact k_then ⟨(m20, (d13_l20 ++ [([] : List Int)]), a24, c24, B24), ⟨rfl, rfl, rfl, rfl, rfl, trivial⟩, ⟨hn20, hev, hms, hfr, hs_p0_0, hs_p1_1, ho7, hj13_l11, hb9, hb17⟩, Nat.lt_succ_self _⟩
   refine c_exit (k_then_exit ?_)
   obtain rfl := some_inj h
   have hy := some_inj hn20
   subst hy
   replace h := h20
   refine k_then_exit (k_block_in (k_block (k_then (c_nm [(5, Vp b9 0), (16, Vl a_p0_0 p0_0 c_p0_0), (17, Vi ((p0_0).length : Int)), (18, Vi t18__s18_l11)] (fun J => ?_)))))
   refine c_plain (x_u 2 [(39, Vi (IntKind.i64.wrap (t18__s18_l11 + 1))), (18, Vi (IntKind.i64.wrap (t18__s18_l11 + 1)))] (x_end rfl ?_))
   obtain rfl := some_inj h
   have hpk : MS (wl20).drew [B7, B13_l20, [b9], M] := hms.pick [some 0, some 1, some 2, some 4] _ rfl
   have hsu := pick_sub (ls := [B7, B13_l20, [b9], [b17], M]) [some 0, some 1, some 2, some 4] [B7, B13_l20, [b9], M] rfl
   replace hs_p0_0 := hs_p0_0.sub hsu
   replace hs_p1_1 := hs_p1_1.sub hsu
   replace hms := hpk
   replace hfr := hfr.pick [some 0, some 1, some 2] [B7, B13_l20, [b9]] rfl
   clear hpk hsu
   exact k_then ⟨(m11, d13_l20, IntKind.i64.wrap (t18__s18_l11 + 1), a13_l20, c13_l20, B13_l20), ⟨rfl, rfl, rfl, rfl, trivial⟩, ⟨hn11, hev, hms, hfr, hs_p0_0, hs_p1_1, ho7, hj13_l11, hb9⟩, Nat.lt_succ_self _⟩
 refine c_exit (k_then_exit ?_)
 obtain rfl := some_inj h
 have hy := some_inj hn11
 subst hy
 replace h := h11
 refine k_then_exit (k_block_in (k_then (c_nm [(5, Vp b9 0)] (fun J => ?_))))
 refine c_sp (x_u 2 [(40, Vp b9 0), (4, Vp b9 0)] (x_ek (c_ret (r_ret (r_vals [Vp b9 0] ⟨rfl, trivial⟩ ?_)))))
 obtain rfl := some_inj h
 have hmr := hms.pick [some 2, some 0, some 1, some 3] [[b9], B7, B13_l11, M] rfl
 have hsu := pick_sub (ls := [B7, B13_l11, [b9], M]) [some 2, some 0, some 1, some 3] [[b9], B7, B13_l11, M] rfl
 have hfe := hfr.pick [some 2, some 0, some 1] [[b9], B7, B13_l11] rfl
 exact ⟨b9, a_p0_0, c_p0_0, a_p1_1, c_p1_1, a7, c7, B7, a13_l11, c13_l11, B13_l11, rfl, hev, hmr, hfe, hb9, hs_p0_0.sub hsu, hs_p1_1.sub hsu, ho7, hj13_l11⟩
def rollin_machine_push_L8 (p0_1_0 : Int) (p0_1_1 : List Int) (p0_2 : List (List Int)) (p1 : Int) (s : Int) : Option (Step Int ((List (List Int)) ⊕ Unit)) :=
match s with
| b_s6_l8 =>
(if (decide (b_s6_l8 < p0_1_0)) = true then
((idx p0_1_1 p1).bind fun x10 =>
(if 0 ≤ b_s6_l8 then
(if ((IntKind.i64.wrap ↑(BitVec.ofInt IntKind.i64.bits (Int.fdiv x10 (2 ^ (min (Int.toNat (b_s6_l8)) IntKind.i64.bits))) &&& BitVec.ofInt IntKind.i64.bits 1).toNat) == 1) = true then
((idx p0_2 b_s6_l8).bind fun x12 =>
(if x12.length + ([p1]).length ≤ 4294967296 then
((idx p0_2 b_s6_l8).bind fun x19 =>
some (.done (.inl (p0_2.set (Int.toNat b_s6_l8) (x12 ++ [p1])))))
else none))
else
some (.next (IntKind.i64.wrap (b_s6_l8 + 1))))
else none))
else
some (.done (.inr ())))
def rollin_machine_push (p0_0_0 : List (Int × Int × Int × Int)) (p0_0_1 : Int) (p0_1_0 : Int) (p0_1_1 : List Int) (p0_2 : List (List Int)) (p0_3 : List (List Int)) (p0_4 : Int) (p0_5 : Int) (p1 : Int) (p2 : Int) : Option (Int × (List (List Int)) × (List (List Int))) :=
((loop (rollin_machine_push_L8 p0_1_0 p0_1_1 p0_2 p1) p2).bind fun d => match d with
| (.inl d3_x800) => some (IntKind.i64.wrap (p0_4 + 1), d3_x800, p0_3)
| (.inr _) => ((idx p0_0_0 p1).bind fun x22 =>
((idx p0_3 x22.1).bind fun x24 =>
(if x24.length + ([p1]).length ≤ 4294967296 then
((idx p0_3 x22.1).bind fun x31 =>
some (IntKind.i64.wrap (p0_4 + 1), p0_2, (p0_3.set (Int.toNat x22.1) (x24 ++ [p1]))))
else none))))
theorem rollin_machine_push_w (b_p0 : Nat) (a_p0_0_0 : Option Addr) (c_p0_0_0 : Nat) (p0_0_0 : List (Int × Int × Int × Int)) (p0_0_1 : Int) (p0_1_0 : Int) (a_p0_1_1 : Option Addr) (c_p0_1_1 : Nat) (p0_1_1 : List Int) (a_p0_2 : Option Addr) (c_p0_2 : Nat) (B_p0_2 : List Nat) (p0_2 : List (List Int)) (a_p0_3 : Option Addr) (c_p0_3 : Nat) (B_p0_3 : List Nat) (p0_3 : List (List Int)) (p0_4 : Int) (p0_5 : Int) (p1 : Int) (p2 : Int) (r : Int × (List (List Int)) × (List (List Int))) (w : World) (M : List Nat) (hms : MS w [[b_p0], B_p0_2, B_p0_3, M]) (hs_p0_0_0 : SlR (eIt4) w (fl [[b_p0], B_p0_2, B_p0_3, M]) a_p0_0_0 c_p0_0_0 p0_0_0) (hs_p0_1_1 : SlR (eInt .i64) w (fl [[b_p0], B_p0_2, B_p0_3, M]) a_p0_1_1 c_p0_1_1 p0_1_1) (hs_p0_2 : OwnR (eInt .i64) 3 22 w B_p0_2 a_p0_2 c_p0_2 p0_2 none) (hs_p0_3 : OwnR (eInt .i64) 3 22 w B_p0_3 a_p0_3 c_p0_3 p0_3 none) (hb_p0 : w.heap[b_p0]? = some (.cells #[.slice a_p0_0_0 (p0_0_0).length c_p0_0_0, Vi p0_0_1, Vi p0_1_0, .slice a_p0_1_1 (p0_1_1).length c_p0_1_1, .slice a_p0_2 (p0_2).length c_p0_2, .slice a_p0_3 (p0_3).length c_p0_3, Vi p0_4, Vi p0_5] 109 (0, 0))) (h : rollin_machine_push p0_0_0 p0_0_1 p0_1_0 p0_1_1 p0_2 p0_3 p0_4 p0_5 p1 p2 = some r) : CallVC Tryz.prog 116 [Vp b_p0 0, Vi p1, Vi p2] w fun v w' => ∃ (a0' : Option Addr), ∃ (c0' : Nat), ∃ (B2' : List Nat), ∃ (a3' : Option Addr), ∃ (c3' : Nat), ∃ (B5' : List Nat), v = .tuple #[] ∧ Ev (fl [[b_p0], B_p0_2, B_p0_3]) w w' ∧ w'.heap[b_p0]? = some (.cells #[.slice a_p0_0_0 (p0_0_0).length c_p0_0_0, Vi p0_0_1, Vi p0_1_0, .slice a_p0_1_1 (p0_1_1).length c_p0_1_1, .slice a0' (r.2.1).length c0', .slice a3' (r.2.2).length c3', Vi r.1, Vi p0_5] 109 (0, 0)) ∧ OwnR (eInt .i64) 3 22 w' B2' a0' c0' r.2.1 none ∧ OwnR (eInt .i64) 3 22 w' B5' a3' c3' r.2.2 none ∧ MS w' [[b_p0], B2', B5', M] ∧ FR w.heap.size [] ∧ NP (fl [[b_p0], B_p0_2, B_p0_3]) w.heap.size [[b_p0], B2', B5'] := by
 refine calls_vc hmx Tryz.func116 (by kernel_rfl) rfl (rs := []) rfl (by kernel_rfl) (args := [Vp b_p0 0, Vi p1, Vi p2]) rfl ?_
 have hev : Ev (fl [[b_p0], B_p0_2, B_p0_3]) w w := Ev.refl _ _
 have hfr : FR w.heap.size [] := FR.nil _
 have hpr : NP (fl [[b_p0], B_p0_2, B_p0_3]) w.heap.size [[b_p0], B_p0_2, B_p0_3] := NP.init _ _
 refine c_sp (x_u 2 [(8, Vp b_p0 0), (9, Vp b_p0 0)] (x_fieldAddr (xv := Vp b_p0 0) (Vp b_p0 6) rfl rfl rfl (reads_field tfld109_4 _ _) (x_load (xv := Vp b_p0 6) (Vi p0_4) rfl rfl rfl (reads_box tcell3 hb_p0 nn 6 _ rfl) (x_u 2 [(12, Vi (IntKind.i64.wrap (p0_4 + 1))), (13, Vp b_p0 0)] (x_fieldAddr (xv := Vp b_p0 0) (Vp b_p0 6) rfl rfl rfl (reads_field tfld109_4 _ _) ?_)))))
 obtain ⟨w6, hr6, hb6, he6⟩ := store_box 6 (Vi (IntKind.i64.wrap (p0_4 + 1))) #[.slice a_p0_0_0 (p0_0_0).length c_p0_0_0, Vi p0_0_1, Vi p0_1_0, .slice a_p0_1_1 (p0_1_1).length c_p0_1_1, .slice a_p0_2 (p0_2).length c_p0_2, .slice a_p0_3 (p0_3).length c_p0_3, Vi (IntKind.i64.wrap (p0_4 + 1)), Vi p0_5] tcell3 hb_p0 rfl rfl rfl
 refine x_store w6 (xv := Vp b_p0 6) (yv := Vi (IntKind.i64.wrap (p0_4 + 1))) rfl rfl rfl rfl hr6 (inl1 ?_)
 have hst := Stp.ev' (ls := [[b_p0], B_p0_2, B_p0_3, M]) he6 (mem_flat 0 rfl)
 replace hs_p0_0_0 := hs_p0_0_0.step hst
 replace hs_p0_1_1 := hs_p0_1_1.step hst
 replace hs_p0_2 := hs_p0_2.step (plain_int _) he6 (hms.apart 1 0 rfl rfl rfl)
 replace hs_p0_3 := hs_p0_3.step (plain_int _) he6 (hms.apart 2 0 rfl rfl rfl)
 replace hms := hms.ev he6
 replace hev := hev.then he6 (hpr.at 0 rfl)
 replace hb_p0 := hb6
 refine x_ek (c_seq (c_sp (x_u 2 [(15, Vi p2), (6, Vi p2)] (x_ek (c_block ?_)))))
 obtain ⟨d8, hd8, h8⟩ := bind_some h
 obtain ⟨m8, hd8⟩ := loop_some hd8
 refine c_loop (loop_rule hmx (σ := Nat × Int) (fun s => match s with | (_, b_s6_l8) => [(0, Vp b_p0 0), (1, Vi p1), (6, Vi b_s6_l8)]) (fun s w' => match s with | (m, b_s6_l8) => loopN (rollin_machine_push_L8 p0_1_0 p0_1_1 p0_2 p1) m b_s6_l8 = some d8 ∧ Ev (fl [[b_p0], B_p0_2, B_p0_3]) w w' ∧ MS w' [[b_p0], B_p0_2, B_p0_3, M] ∧ FR w.heap.size [] ∧ NP (fl [[b_p0], B_p0_2, B_p0_3]) w.heap.size [[b_p0], B_p0_2, B_p0_3] ∧ SlR (eIt4) w' (fl [[b_p0], B_p0_2, B_p0_3, M]) a_p0_0_0 c_p0_0_0 p0_0_0 ∧ SlR (eInt .i64) w' (fl [[b_p0], B_p0_2, B_p0_3, M]) a_p0_1_1 c_p0_1_1 p0_1_1 ∧ OwnR (eInt .i64) 3 22 w' B_p0_2 a_p0_2 c_p0_2 p0_2 none ∧ OwnR (eInt .i64) 3 22 w' B_p0_3 a_p0_3 c_p0_3 p0_3 none ∧ w'.heap[b_p0]? = some (.cells #[.slice a_p0_0_0 (p0_0_0).length c_p0_0_0, Vi p0_0_1, Vi p0_1_0, .slice a_p0_1_1 (p0_1_1).length c_p0_1_1, .slice a_p0_2 (p0_2).length c_p0_2, .slice a_p0_3 (p0_3).length c_p0_3, Vi (IntKind.i64.wrap (p0_4 + 1)), Vi p0_5] 109 (0, 0))) (fun s => s.1) (m8, p2) ⟨rfl, rfl, rfl, trivial⟩ ⟨hd8, hev, hms, hfr, hpr, hs_p0_0_0, hs_p0_1_1, hs_p0_2, hs_p0_3, hb_p0⟩ ?_)
 rintro ⟨m8, b_s6_l8⟩ J wl8 ⟨hn8, hev, hms, hfr, hpr, hs_p0_0_0, hs_p0_1_1, hs_p0_2, hs_p0_3, hb_p0⟩
 rcases m8 with _ | m8
 · exact (loopN_zero hn8).elim
 obtain ⟨t8, h, hn8⟩ := bind_some hn8
 refine c_seq (c_sp (x_u 3 [(16, Vi b_s6_l8), (17, Vp b_p0 0), (18, Vp b_p0 0)] (x_fieldAddr (xv := Vp b_p0 0) (Vp b_p0 2) rfl rfl rfl (reads_field tfld109_1 _ _) (x_fieldAddr (xv := Vp b_p0 2) (Vp b_p0 2) rfl rfl rfl (reads_field tfld52_0 _ _) (x_load (xv := Vp b_p0 2) (Vi p0_1_0) rfl rfl rfl (reads_box tcell3 hb_p0 nn 2 _ rfl) ?_)))))
 refine x_u 1 [(22, .bool (decide (b_s6_l8 < p0_1_0)))] (x_ek (c_nm [(0, Vp b_p0 0), (1, Vi p1), (6, Vi b_s6_l8), (22, .bool (decide (b_s6_l8 < p0_1_0)))] (fun J => ?_)))
 refine c_if (decide (b_s6_l8 < p0_1_0)) rfl h (fun h => ?_) (fun h => ?_)
 · refine c_skip (k_then (c_seq (c_block (c_sp (x_u 2 [(25, Vp b_p0 0), (26, Vp b_p0 0)] ?_)))))
   refine x_fieldAddr (xv := Vp b_p0 0) (Vp b_p0 2) rfl rfl rfl (reads_field tfld109_1 _ _) (x_fieldAddr (xv := Vp b_p0 2) (Vp b_p0 3) rfl rfl rfl (reads_field tfld52_1 _ _) (x_load (xv := Vp b_p0 3) (.slice a_p0_1_1 (p0_1_1).length c_p0_1_1) rfl rfl rfl (reads_box tcell22 hb_p0 nn 3 _ rfl) (x_u 1 [(30, Vi p1)] ?_)))
   obtain ⟨x10, hx10, h⟩ := bind_some h
   obtain ⟨ad10, cs10, hr10, hc10, hR⟩ := reads_index (Mo := []) tsl22 hs_p0_1_1 hx10
   obtain rfl := hR
   refine x_indexAddr (xv := .slice a_p0_1_1 (p0_1_1).length c_p0_1_1) (yv := Vi p1) (.pointer (some ad10)) rfl rfl rfl rfl hr10 (x_load (xv := .pointer (some ad10)) (Vi x10) rfl rfl rfl (reads_cell0 tcell3 hc10 (fun _ h => by cases h)) ?_)
   refine x_u 1 [(33, Vi b_s6_l8)] (x_binop (Vi (Int.fdiv x10 (2 ^ (min (Int.toNat (b_s6_l8)) IntKind.i64.bits)))) (Vi x10) (Vi b_s6_l8) rfl rfl rfl rfl (vb_shr (guard_l h)) ?_)
   replace h := guard_r h
   refine x_u 2 [(35, Vi (IntKind.i64.wrap ↑(BitVec.ofInt IntKind.i64.bits (Int.fdiv x10 (2 ^ (min (Int.toNat (b_s6_l8)) IntKind.i64.bits))) &&& BitVec.ofInt IntKind.i64.bits 1).toNat)), (36, .bool ((IntKind.i64.wrap ↑(BitVec.ofInt IntKind.i64.bits (Int.fdiv x10 (2 ^ (min (Int.toNat (b_s6_l8)) IntKind.i64.bits))) &&& BitVec.ofInt IntKind.i64.bits 1).toNat) == 1))] (x_ek (c_if ((IntKind.i64.wrap ↑(BitVec.ofInt IntKind.i64.bits (Int.fdiv x10 (2 ^ (min (Int.toNat (b_s6_l8)) IntKind.i64.bits))) &&& BitVec.ofInt IntKind.i64.bits 1).toNat) == 1) rfl h (fun h => ?_) (fun h => ?_)))
   · refine c_seq (c_drawn (innr a_p0_2 B_p0_2) [(0, false), (1, false), (2, false), (3, false), (4, false), (5, false), (6, false), (7, false), (8, false), (9, false), (10, false), (11, false), (12, true), (13, false), (14, false), (15, true), (16, true)] _ (by kernel_rfl) rfl ?_)
     replace hb_p0 := (Ev.drew wl8).box hb_p0 nn
     replace hs_p0_2 := hs_p0_2.step (plain_int _) (Ev.drew wl8) nn2
     replace hs_p0_3 := hs_p0_3.step (plain_int _) (Ev.drew wl8) nn2
     replace hms := hms.ev (Ev.drew wl8)
     replace hev := hev.ext (Ev.drew wl8)
     refine x_u 2 [(37, Vp b_p0 0), (38, Vp b_p0 0)] (x_fieldAddr (xv := Vp b_p0 0) (Vp b_p0 4) rfl rfl rfl (reads_field tfld109_2 _ _) (x_load (xv := Vp b_p0 4) (.slice a_p0_2 (p0_2).length c_p0_2) rfl rfl rfl (reads_box tcell57 hb_p0 ((fun x hx h => hms.apart 0 1 rfl rfl rfl x hx (innr_sub _ h)) _ mem1) 4 _ rfl) (x_u 3 [(41, Vi b_s6_l8), (42, Vp b_p0 0), (43, Vp b_p0 0)] (x_fieldAddr (xv := Vp b_p0 0) (Vp b_p0 4) rfl rfl rfl (reads_field tfld109_2 _ _) (x_load (xv := Vp b_p0 4) (.slice a_p0_2 (p0_2).length c_p0_2) rfl rfl rfl (reads_box tcell57 hb_p0 ((fun x hx h => hms.apart 0 1 rfl rfl rfl x hx (innr_sub _ h)) _ mem1) 4 _ rfl) ?_)))))
     refine x_u 1 [(46, Vi b_s6_l8)] ?_
     obtain ⟨x12, hx12, h⟩ := bind_some h
     obtain ⟨g12, ai12, ci12, hr12, hv12⟩ := OwnR.view (P := Tryz.prog) (Mo := (innr a_p0_2 B_p0_2)) tsl57 hs_p0_2 hx12
     refine x_indexAddr (xv := .slice a_p0_2 (p0_2).length c_p0_2) (yv := Vi b_s6_l8) (.pointer (some ⟨g12, (Int.toNat b_s6_l8), none⟩)) rfl rfl rfl rfl hr12 (x_load (xv := .pointer (some ⟨g12, (Int.toNat b_s6_l8), none⟩)) (.slice ai12 (x12).length ci12) rfl rfl rfl (RView.loadI tcell22 hv12) (x_u 1 [(49, Vi p1)] (x_buildSlice (vs := [(0, Vi p1)]) #[Vi p1] 3 rfl rfl rfl (by kernel_rfl) (fun b14 w14 hq14 hb14 he14 hz14 => ?_))))
     refine ⟨.inr (he14.nil), ?_⟩
     have hms0 := hms
     replace hb_p0 := he14.box hb_p0 nn
     replace hs_p0_2 := hs_p0_2.step (plain_int _) he14 nn2
     replace hs_p0_3 := hs_p0_3.step (plain_int _) he14 nn2
     replace hv12 := hv12.step (plain_int _) he14 nn2
     replace hms := hms.ev he14
     replace hev := hev.ext he14
     have hs14 : SlR (eInt .i64) w14 (fl [[b_p0], B_p0_2, B_p0_3, M]) (Ad b14 0) 1 ([p1]) := ro_of_box hms0 hq14 hb14 rfl rfl (cells_at (cs := [Vi p1]) (CellsOf.cons (c := [Vi p1]) rfl CellsOf.nil))
     clear hb14 hms0
     have hin16 := RView.inner hv12 hs_p0_2
     obtain ⟨B16, hR16, ho16, hs1, hs2, hs3⟩ := OwnR.opn hs_p0_2 hv12
     replace hs_p0_2 := hR16
     have hms2 := hms.split 1 rfl hs2 hs1 hs3
     have hsu : ∀ x ∈ fl [blk ai12, [b_p0], B16, B_p0_3, M], x ∈ fl [[b_p0], B_p0_2, B_p0_3, M] := fun x hx => split_sub (ls := [[b_p0], B_p0_2, B_p0_3, M]) 1 rfl hs2 hs1 x (pick_sub [some 0, some 1, some 2, some 3, some 4] _ rfl x hx)
     replace hms : MS w14 [blk ai12, [b_p0], B16, B_p0_3, M] := hms2.pick [some 0, some 1, some 2, some 3, some 4] _ rfl
     replace hpr : NP (fl [[b_p0], B_p0_2, B_p0_3]) w.heap.size [blk ai12, [b_p0], B16, B_p0_3] := (NP.cons (fun b hb => hpr.at 1 rfl b (hs2 b hb)) (NP.cons (hpr.at 0 rfl) (NP.cons (fun b hb => hpr.at 1 rfl b (hs1 b hb)) (NP.cons (hpr.at 2 rfl) (NP.nil _ _)))))
     replace hs14 := hs14.sub hsu
     replace ho16 := OwnS.plain (M' := fl [blk ai12, [b_p0], B16, B_p0_3, M]) (plain_int _) ho16
     have hg16 := hv12.eq
     have hx16 := hv12.at_
     clear hv12 hms2 hs1 hs2 hs3 hsu
     have hg := guard_l h
     replace h := guard_r h
     obtain ⟨a18, c18, w18, hr18, he18, hn18, hm18, hw18⟩ := own_appendN tel22 22 ho16 (mem_flat 0 rfl) hs14 hg
     refine x_builtin (vs := [.slice ai12 (x12).length ci12, .slice (Ad b14 0) ([p1]).length 1]) _ w18 rfl rfl rfl rfl (run_value _ _ _ _ hr18) (⟨.inr (he18.sub hin16), ?_⟩)
     have hst : Stp (fl [blk ai12, [b_p0], B16, B_p0_3, M]) w14 (fl [blk a18, [b_p0], B16, B_p0_3, M]) w18 := Stp.upd 0 he18 rfl (fun b hb => (hn18 b hb).1)
     replace hb_p0 := he18.box hb_p0 (hms.apart 1 0 rfl rfl rfl _ mem1)
     replace hs_p0_2 := hs_p0_2.step (plain_int _) he18 (hms.apart 2 0 rfl rfl rfl)
     replace hs_p0_3 := hs_p0_3.step (plain_int _) he18 (hms.apart 3 0 rfl rfl rfl)
     replace hms : MS w18 [blk a18, [b_p0], B16, B_p0_3, M] := hms.upd 0 he18 rfl hn18
     have hpr2 : NP (fl [[b_p0], B_p0_2, B_p0_3]) w.heap.size [blk a18, [b_p0], B16, B_p0_3] := (NP.cons (fun b hb => (hn18 b hb).1.elim (fun h => hpr.at 0 rfl b h) (fun h => .inr (Nat.le_trans hev.size h))) (NP.cons (hpr.at 1 rfl) (NP.cons (hpr.at 2 rfl) (NP.cons (hpr.at 3 rfl) (NP.nil _ _)))))
     replace hev := hev.then he18 (hpr.at 0 rfl)
     replace hpr := hpr2
     clear hpr2
     replace ho16 := hw18 (fl [blk a18, [b_p0], B16, B_p0_3, M]) hst.new
     clear hw18
     obtain ⟨x19, hx19, h⟩ := bind_some h
     obtain ⟨g19, hg19, hr19, hy19⟩ := OwnR.addr (P := Tryz.prog) (Mo := []) tsl57 hs_p0_2 hx19
     refine x_indexAddr (xv := .slice a_p0_2 (p0_2).length c_p0_2) (yv := Vi b_s6_l8) (.pointer (some ⟨g19, (Int.toNat b_s6_l8), none⟩)) rfl rfl rfl rfl hr19 ?_
     obtain ⟨w21, B21, hr21, he21, hn21, hR21⟩ := OwnR.cls (P := Tryz.prog) (plain_int _) tcell22 hs_p0_2 hg19 hy19 ho16 (hms.apart 0 2 rfl rfl rfl) (hms.ltat 2 rfl)
     refine x_store w21 (xv := .pointer (some ⟨g19, (Int.toNat b_s6_l8), none⟩)) (yv := .slice a18 ((x12 ++ [p1])).length c18) rfl rfl rfl rfl hr21 (inl1 ?_)
     have hms2 := hms.merge (C := blk a18 ++ B16) 0 2 rfl rfl (fun x hx => List.mem_append.1 hx)
     replace hpr : NP (fl [[b_p0], B_p0_2, B_p0_3]) w.heap.size [[b_p0], blk a18 ++ B16, B_p0_3] := (NP.cons (hpr.at 1 rfl) (NP.cons (fun b hb => (List.mem_append.1 hb).elim (fun h => hpr.at 0 rfl b h) (hpr.at 2 rfl b)) (NP.cons (hpr.at 3 rfl) (NP.nil _ _))))
     replace hms : MS w18 [[b_p0], blk a18 ++ B16, B_p0_3, M] := hms2
     clear hms2
     replace hb_p0 := he21.box hb_p0 (hms.apart 0 1 rfl rfl rfl _ mem1)
     replace hs_p0_3 := hs_p0_3.step (plain_int _) he21 (hms.apart 2 1 rfl rfl rfl)
     replace hms : MS w21 [[b_p0], B21, B_p0_3, M] := hms.upd 1 he21 rfl hn21
     have hpr2 : NP (fl [[b_p0], B_p0_2, B_p0_3]) w.heap.size [[b_p0], B21, B_p0_3] := (NP.cons (hpr.at 0 rfl) (NP.cons (fun b hb => (hn21 b hb).1.elim (fun h => hpr.at 1 rfl b h) (fun h => .inr (Nat.le_trans hev.size h))) (NP.cons (hpr.at 2 rfl) (NP.nil _ _))))
     replace hev := hev.then he21 (hpr.at 1 rfl)
     replace hpr := hpr2
     clear hpr2
     replace hs_p0_2 := hR21
     have hsl : (Value.slice a_p0_2 (p0_2).length c_p0_2) = (Value.slice a_p0_2 ((p0_2.set (Int.toNat b_s6_l8) (x12 ++ [p1]))).length c_p0_2) := by first | (rw [List.length_set]; done) | simp only [List.length_set]
     rw [hsl] at hb_p0
     try rw [hsl]
     clear hsl
     refine x_ek (c_norm [] trivial (fun J => ?_))
     refine c_ret (k_block_ret (k_then_ret ?_))
     obtain rfl := some_inj h
     have hy := some_inj hn8
     subst hy
     replace h := h8
     refine k_then_ret (k_block_ret (k_then_ret (r_ret (r_vals [] trivial ?_))))
     obtain rfl := some_inj h
     have hmr := hms.pick [some 0, some 1, some 2, some 3] [[b_p0], B21, B_p0_3, M] rfl
     have hfe := hfr.pick [] [] rfl
     exact ⟨a_p0_2, c_p0_2, B21, a_p0_3, c_p0_3, B_p0_3, rfl, hev, hb_p0, hs_p0_2, hs_p0_3, hmr, hfe, (NP.cons (hpr.at 0 rfl) (NP.cons (hpr.at 1 rfl) (NP.cons (hpr.at 2 rfl) (NP.nil _ _))))⟩
   refine c_skip (k_block (k_then (c_nm [(0, Vp b_p0 0), (1, Vi p1), (6, Vi b_s6_l8)] (fun J => ?_))))
   refine c_plain (x_u 3 [(23, Vi b_s6_l8), (24, Vi (IntKind.i64.wrap (b_s6_l8 + 1))), (6, Vi (IntKind.i64.wrap (b_s6_l8 + 1)))] (x_end rfl ?_))
   obtain rfl := some_inj h
   exact k_then ⟨(m8, IntKind.i64.wrap (b_s6_l8 + 1)), ⟨rfl, rfl, rfl, trivial⟩, ⟨hn8, hev, hms, hfr, hpr, hs_p0_0_0, hs_p0_1_1, hs_p0_2, hs_p0_3, hb_p0⟩, Nat.lt_succ_self _⟩
 refine c_exit (k_then_exit ?_)
 obtain rfl := some_inj h
 have hy := some_inj hn8
 subst hy
 replace h := h8
 refine k_then_exit (k_block_in (k_then (c_nm [(0, Vp b_p0 0), (1, Vi p1)] (fun J => ?_))))
 refine c_sp (x_u 2 [(53, Vp b_p0 0), (54, Vp b_p0 0)] (x_fieldAddr (xv := Vp b_p0 0) (Vp b_p0 0) rfl rfl rfl (reads_field tfld109_0 _ _) (x_fieldAddr (xv := Vp b_p0 0) (Vp b_p0 0) rfl rfl rfl (reads_field tfld50_0 _ _) (x_load (xv := Vp b_p0 0) (.slice a_p0_0_0 (p0_0_0).length c_p0_0_0) rfl rfl rfl (reads_box tcell36 hb_p0 nn 0 _ rfl) (x_u 1 [(58, Vi p1)] ?_)))))
 obtain ⟨x22, hx22, h⟩ := bind_some h
 obtain ⟨ad22, cs22, hr22, hc22, hR⟩ := reads_index (Mo := []) tsl36 hs_p0_0_0 hx22
 obtain ⟨_, _, rfl, rfl, ⟨_, _, rfl, rfl, ⟨_, _, rfl, rfl, rfl⟩⟩⟩ := hR
 refine x_indexAddr (xv := .slice a_p0_0_0 (p0_0_0).length c_p0_0_0) (yv := Vi p1) (.pointer (some ad22)) rfl rfl rfl rfl hr22 (x_fieldAddr (xv := .pointer (some ad22)) (.pointer (some (Addr.add ad22 0))) rfl rfl rfl (reads_field tfld76_0 _ _) (x_load (xv := .pointer (some (Addr.add ad22 0))) (Vi x22.1) rfl rfl rfl (reads_cell tcell3 hc22 (fun _ h => by cases h) 0 _ rfl) ?_))
 refine x_u 1 [(7, Vi x22.1)] (x_ek (c_drawn (innr a_p0_3 B_p0_3) [(0, false), (1, false), (2, false), (3, false), (4, false), (5, false), (6, false), (7, false), (8, false), (9, false), (10, false), (11, false), (12, true), (13, false), (14, false), (15, true), (16, true)] _ (by kernel_rfl) rfl ?_))
 replace hb_p0 := (Ev.drew wl8).box hb_p0 nn
 replace hs_p0_2 := hs_p0_2.step (plain_int _) (Ev.drew wl8) nn2
 replace hs_p0_3 := hs_p0_3.step (plain_int _) (Ev.drew wl8) nn2
 replace hms := hms.ev (Ev.drew wl8)
 replace hev := hev.ext (Ev.drew wl8)
 refine x_u 2 [(62, Vp b_p0 0), (63, Vp b_p0 0)] (x_fieldAddr (xv := Vp b_p0 0) (Vp b_p0 5) rfl rfl rfl (reads_field tfld109_3 _ _) (x_load (xv := Vp b_p0 5) (.slice a_p0_3 (p0_3).length c_p0_3) rfl rfl rfl (reads_box tcell57 hb_p0 ((fun x hx h => hms.apart 0 2 rfl rfl rfl x hx (innr_sub _ h)) _ mem1) 5 _ rfl) (x_u 3 [(66, Vi x22.1), (67, Vp b_p0 0), (68, Vp b_p0 0)] (x_fieldAddr (xv := Vp b_p0 0) (Vp b_p0 5) rfl rfl rfl (reads_field tfld109_3 _ _) (x_load (xv := Vp b_p0 5) (.slice a_p0_3 (p0_3).length c_p0_3) rfl rfl rfl (reads_box tcell57 hb_p0 ((fun x hx h => hms.apart 0 2 rfl rfl rfl x hx (innr_sub _ h)) _ mem1) 5 _ rfl) ?_)))))
 refine x_u 1 [(71, Vi x22.1)] ?_
 obtain ⟨x24, hx24, h⟩ := bind_some h
 obtain ⟨g24, ai24, ci24, hr24, hv24⟩ := OwnR.view (P := Tryz.prog) (Mo := (innr a_p0_3 B_p0_3)) tsl57 hs_p0_3 hx24
 refine x_indexAddr (xv := .slice a_p0_3 (p0_3).length c_p0_3) (yv := Vi x22.1) (.pointer (some ⟨g24, (Int.toNat x22.1), none⟩)) rfl rfl rfl rfl hr24 (x_load (xv := .pointer (some ⟨g24, (Int.toNat x22.1), none⟩)) (.slice ai24 (x24).length ci24) rfl rfl rfl (RView.loadI tcell22 hv24) (x_u 1 [(74, Vi p1)] (x_buildSlice (vs := [(0, Vi p1)]) #[Vi p1] 3 rfl rfl rfl (by kernel_rfl) (fun b26 w26 hq26 hb26 he26 hz26 => ?_))))
 refine ⟨.inr (he26.nil), ?_⟩
 have hms0 := hms
 replace hb_p0 := he26.box hb_p0 nn
 replace hs_p0_2 := hs_p0_2.step (plain_int _) he26 nn2
 replace hs_p0_3 := hs_p0_3.step (plain_int _) he26 nn2
 replace hv24 := hv24.step (plain_int _) he26 nn2
 replace hms := hms.ev he26
 replace hev := hev.ext he26
 have hs26 : SlR (eInt .i64) w26 (fl [[b_p0], B_p0_2, B_p0_3, M]) (Ad b26 0) 1 ([p1]) := ro_of_box hms0 hq26 hb26 rfl rfl (cells_at (cs := [Vi p1]) (CellsOf.cons (c := [Vi p1]) rfl CellsOf.nil))
 clear hb26 hms0
 have hin28 := RView.inner hv24 hs_p0_3
 obtain ⟨B28, hR28, ho28, hs1, hs2, hs3⟩ := OwnR.opn hs_p0_3 hv24
 replace hs_p0_3 := hR28
 have hms2 := hms.split 2 rfl hs2 hs1 hs3
 have hsu : ∀ x ∈ fl [blk ai24, [b_p0], B_p0_2, B28, M], x ∈ fl [[b_p0], B_p0_2, B_p0_3, M] := fun x hx => split_sub (ls := [[b_p0], B_p0_2, B_p0_3, M]) 2 rfl hs2 hs1 x (pick_sub [some 0, some 1, some 2, some 3, some 4] _ rfl x hx)
 replace hms : MS w26 [blk ai24, [b_p0], B_p0_2, B28, M] := hms2.pick [some 0, some 1, some 2, some 3, some 4] _ rfl
 replace hpr : NP (fl [[b_p0], B_p0_2, B_p0_3]) w.heap.size [blk ai24, [b_p0], B_p0_2, B28] := (NP.cons (fun b hb => hpr.at 2 rfl b (hs2 b hb)) (NP.cons (hpr.at 0 rfl) (NP.cons (hpr.at 1 rfl) (NP.cons (fun b hb => hpr.at 2 rfl b (hs1 b hb)) (NP.nil _ _)))))
 replace hs26 := hs26.sub hsu
 replace ho28 := OwnS.plain (M' := fl [blk ai24, [b_p0], B_p0_2, B28, M]) (plain_int _) ho28
 have hg28 := hv24.eq
 have hx28 := hv24.at_
 clear hv24 hms2 hs1 hs2 hs3 hsu
 have hg := guard_l h
 replace h := guard_r h
 obtain ⟨a30, c30, w30, hr30, he30, hn30, hm30, hw30⟩ := own_appendN tel22 22 ho28 (mem_flat 0 rfl) hs26 hg
 refine x_builtin (vs := [.slice ai24 (x24).length ci24, .slice (Ad b26 0) ([p1]).length 1]) _ w30 rfl rfl rfl rfl (run_value _ _ _ _ hr30) (⟨.inr (he30.sub hin28), ?_⟩)
 have hst : Stp (fl [blk ai24, [b_p0], B_p0_2, B28, M]) w26 (fl [blk a30, [b_p0], B_p0_2, B28, M]) w30 := Stp.upd 0 he30 rfl (fun b hb => (hn30 b hb).1)
 replace hb_p0 := he30.box hb_p0 (hms.apart 1 0 rfl rfl rfl _ mem1)
 replace hs_p0_2 := hs_p0_2.step (plain_int _) he30 (hms.apart 2 0 rfl rfl rfl)
 replace hs_p0_3 := hs_p0_3.step (plain_int _) he30 (hms.apart 3 0 rfl rfl rfl)
 replace hms : MS w30 [blk a30, [b_p0], B_p0_2, B28, M] := hms.upd 0 he30 rfl hn30
 have hpr2 : NP (fl [[b_p0], B_p0_2, B_p0_3]) w.heap.size [blk a30, [b_p0], B_p0_2, B28] := (NP.cons (fun b hb => (hn30 b hb).1.elim (fun h => hpr.at 0 rfl b h) (fun h => .inr (Nat.le_trans hev.size h))) (NP.cons (hpr.at 1 rfl) (NP.cons (hpr.at 2 rfl) (NP.cons (hpr.at 3 rfl) (NP.nil _ _)))))
 replace hev := hev.then he30 (hpr.at 0 rfl)
 replace hpr := hpr2
 clear hpr2
 replace ho28 := hw30 (fl [blk a30, [b_p0], B_p0_2, B28, M]) hst.new
 clear hw30
 obtain ⟨x31, hx31, h⟩ := bind_some h
 obtain ⟨g31, hg31, hr31, hy31⟩ := OwnR.addr (P := Tryz.prog) (Mo := []) tsl57 hs_p0_3 hx31
 refine x_indexAddr (xv := .slice a_p0_3 (p0_3).length c_p0_3) (yv := Vi x22.1) (.pointer (some ⟨g31, (Int.toNat x22.1), none⟩)) rfl rfl rfl rfl hr31 ?_
 obtain ⟨w33, B33, hr33, he33, hn33, hR33⟩ := OwnR.cls (P := Tryz.prog) (plain_int _) tcell22 hs_p0_3 hg31 hy31 ho28 (hms.apart 0 3 rfl rfl rfl) (hms.ltat 3 rfl)
 refine x_store w33 (xv := .pointer (some ⟨g31, (Int.toNat x22.1), none⟩)) (yv := .slice a30 ((x24 ++ [p1])).length c30) rfl rfl rfl rfl hr33 (inl1 ?_)
 have hms2 := hms.merge (C := blk a30 ++ B28) 0 3 rfl rfl (fun x hx => List.mem_append.1 hx)
 replace hpr : NP (fl [[b_p0], B_p0_2, B_p0_3]) w.heap.size [[b_p0], B_p0_2, blk a30 ++ B28] := (NP.cons (hpr.at 1 rfl) (NP.cons (hpr.at 2 rfl) (NP.cons (fun b hb => (List.mem_append.1 hb).elim (fun h => hpr.at 0 rfl b h) (hpr.at 3 rfl b)) (NP.nil _ _))))
 replace hms : MS w30 [[b_p0], B_p0_2, blk a30 ++ B28, M] := hms2
 clear hms2
 replace hb_p0 := he33.box hb_p0 (hms.apart 0 2 rfl rfl rfl _ mem1)
 replace hs_p0_2 := hs_p0_2.step (plain_int _) he33 (hms.apart 1 2 rfl rfl rfl)
 replace hms : MS w33 [[b_p0], B_p0_2, B33, M] := hms.upd 2 he33 rfl hn33
 have hpr2 : NP (fl [[b_p0], B_p0_2, B_p0_3]) w.heap.size [[b_p0], B_p0_2, B33] := (NP.cons (hpr.at 0 rfl) (NP.cons (hpr.at 1 rfl) (NP.cons (fun b hb => (hn33 b hb).1.elim (fun h => hpr.at 2 rfl b h) (fun h => .inr (Nat.le_trans hev.size h))) (NP.nil _ _))))
 replace hev := hev.then he33 (hpr.at 2 rfl)
 replace hpr := hpr2
 clear hpr2
 replace hs_p0_3 := hR33
 have hsl : (Value.slice a_p0_3 (p0_3).length c_p0_3) = (Value.slice a_p0_3 ((p0_3.set (Int.toNat x22.1) (x24 ++ [p1]))).length c_p0_3) := by first | (rw [List.length_set]; done) | simp only [List.length_set]
 rw [hsl] at hb_p0
 try rw [hsl]
 clear hsl
 refine x_end rfl (r_normal (r_vals [] trivial ?_))
 obtain rfl := some_inj h
 have hmr := hms.pick [some 0, some 1, some 2, some 3] [[b_p0], B_p0_2, B33, M] rfl
 have hfe := hfr.pick [] [] rfl
 exact ⟨a_p0_2, c_p0_2, B_p0_2, a_p0_3, c_p0_3, B33, rfl, hev, hb_p0, hs_p0_2, hs_p0_3, hmr, hfe, (NP.cons (hpr.at 0 rfl) (NP.cons (hpr.at 1 rfl) (NP.cons (hpr.at 2 rfl) (NP.nil _ _))))⟩
def rollin_machine_at_L21 (p0_0_0 : List (Int × Int × Int × Int)) (p0_0_1 : Int) (p0_1_0 : Int) (p0_1_1 : List Int) (p0_5 : Int) (p1 : Int) (s : (List (List Int)) × (List (List Int)) × Int × Int) : Option (Step ((List (List Int)) × (List (List Int)) × Int × Int) ((List (List Int)) × (List (List Int)) × Int)) :=
match s with
| (d3_l21, d4_l21, e5_l21_6, t48__s48_l21) =>
(if (decide (t48__s48_l21 < ((p0_0_0).length : Int))) = true then
((idx p0_0_0 t48__s48_l21).bind fun x23 =>
(if (x23.2.2.1 == p1) = true then
((rollin_machine_push p0_0_0 p0_0_1 p0_1_0 p0_1_1 d3_l21 d4_l21 e5_l21_6 p0_5 t48__s48_l21 p1).bind fun x28 =>
some (.next (x28.2.1, x28.2.2, x28.1, IntKind.i64.wrap (t48__s48_l21 + 1))))
else
some (.next (d3_l21, d4_l21, e5_l21_6, IntKind.i64.wrap (t48__s48_l21 + 1)))))
else
some (.done (d3_l21, d4_l21, e5_l21_6)))
def rollin_machine_at_J6 (p0_0_0 : List (Int × Int × Int × Int)) (p0_0_1 : Int) (p0_1_0 : Int) (p0_1_1 : List Int) (p0_4 : Int) (p0_5 : Int) (p1 : Int) (d3_j6 : List (List Int)) (d4_j6 : List (List Int)) (e5_j6_6 : Int) : Option (Int × Int × (List (List Int)) × (List (List Int))) :=
((loop (rollin_machine_at_L21 p0_0_0 p0_0_1 p0_1_0 p0_1_1 p0_5 p1) (d3_j6, d4_j6, e5_j6_6, 0)).bind fun d => match d with
| (d3_x21, d4_x21, e5_x21_6) => (if (decide (e5_x21_6 > p0_4)) = true then
some (e5_x21_6, IntKind.i64.wrap (p0_5 + 1), d3_x21, d4_x21)
else
some (e5_x21_6, p0_5, d3_x21, d4_x21)))
def rollin_machine_at_L14 (p0_0_0 : List (Int × Int × Int × Int)) (p0_0_1 : Int) (p0_1_0 : Int) (p0_1_1 : List Int) (p0_5 : Int) (p1 : Int) (x7 : List Int) (s : (List (List Int)) × (List (List Int)) × Int × Int) : Option (Step ((List (List Int)) × (List (List Int)) × Int × Int) ((List (List Int)) × (List (List Int)) × Int)) :=
match s with
| (d3_l14, d4_l14, e5_l14_6, t33__s33_l14) =>
(if (decide (t33__s33_l14 < ((x7).length : Int))) = true then
((idx x7 t33__s33_l14).bind fun x16 =>
((rollin_machine_push p0_0_0 p0_0_1 p0_1_0 p0_1_1 d3_l14 d4_l14 e5_l14_6 p0_5 x16 p1).bind fun x18 =>
some (.next (x18.2.1, x18.2.2, x18.1, IntKind.i64.wrap (t33__s33_l14 + 1)))))
else
some (.done (d3_l14, d4_l14, e5_l14_6)))
def rollin_machine_at (p0_0_0 : List (Int × Int × Int × Int)) (p0_0_1 : Int) (p0_1_0 : Int) (p0_1_1 : List Int) (p0_2 : List (List Int)) (p0_3 : List (List Int)) (p0_4 : Int) (p0_5 : Int) (p1 : Int) : Option (Int × Int × (List (List Int)) × (List (List Int))) :=
(if (decide (p1 > 0)) = true then
((idx p0_2 (IntKind.i64.wrap (p1 - 1))).bind fun x7 =>
((idx p0_2 (IntKind.i64.wrap (p1 - 1))).bind fun x9 =>
((loop (rollin_machine_at_L14 p0_0_0 p0_0_1 p0_1_0 p0_1_1 p0_5 p1 x7) ((p0_2.set (Int.toNat (IntKind.i64.wrap (p1 - 1))) ([] : List Int)), p0_3, p0_4, 0)).bind fun d => match d with
| (d3_x14, d4_x14, e5_x14_6) => rollin_machine_at_J6 p0_0_0 p0_0_1 p0_1_0 p0_1_1 p0_4 p0_5 p1 d3_x14 d4_x14 e5_x14_6)))
else
rollin_machine_at_J6 p0_0_0 p0_0_1 p0_1_0 p0_1_1 p0_4 p0_5 p1 p0_2 p0_3 p0_4)
theorem rollin_machine_at_w (b_p0 : Nat) (a_p0_0_0 : Option Addr) (c_p0_0_0 : Nat) (p0_0_0 : List (Int × Int × Int × Int)) (p0_0_1 : Int) (p0_1_0 : Int) (a_p0_1_1 : Option Addr) (c_p0_1_1 : Nat) (p0_1_1 : List Int) (a_p0_2 : Option Addr) (c_p0_2 : Nat) (B_p0_2 : List Nat) (p0_2 : List (List Int)) (a_p0_3 : Option Addr) (c_p0_3 : Nat) (B_p0_3 : List Nat) (p0_3 : List (List Int)) (p0_4 : Int) (p0_5 : Int) (p1 : Int) (r : Int × Int × (List (List Int)) × (List (List Int))) (w : World) (M : List Nat) (hms : MS w [[b_p0], B_p0_2, B_p0_3, M]) (hs_p0_0_0 : SlR (eIt4) w (fl [[b_p0], B_p0_2, B_p0_3, M]) a_p0_0_0 c_p0_0_0 p0_0_0) (hs_p0_1_1 : SlR (eInt .i64) w (fl [[b_p0], B_p0_2, B_p0_3, M]) a_p0_1_1 c_p0_1_1 p0_1_1) (hs_p0_2 : OwnR (eInt .i64) 3 22 w B_p0_2 a_p0_2 c_p0_2 p0_2 none) (hs_p0_3 : OwnR (eInt .i64) 3 22 w B_p0_3 a_p0_3 c_p0_3 p0_3 none) (hb_p0 : w.heap[b_p0]? = some (.cells #[.slice a_p0_0_0 (p0_0_0).length c_p0_0_0, Vi p0_0_1, Vi p0_1_0, .slice a_p0_1_1 (p0_1_1).length c_p0_1_1, .slice a_p0_2 (p0_2).length c_p0_2, .slice a_p0_3 (p0_3).length c_p0_3, Vi p0_4, Vi p0_5] 109 (0, 0))) (h : rollin_machine_at p0_0_0 p0_0_1 p0_1_0 p0_1_1 p0_2 p0_3 p0_4 p0_5 p1 = some r) : CallVC Tryz.prog 86 [Vp b_p0 0, Vi p1] w fun v w' => ∃ (a0' : Option Addr), ∃ (c0' : Nat), ∃ (B2' : List Nat), ∃ (a3' : Option Addr), ∃ (c3' : Nat), ∃ (B5' : List Nat), v = .tuple #[] ∧ Ev (fl [[b_p0], B_p0_2, B_p0_3]) w w' ∧ w'.heap[b_p0]? = some (.cells #[.slice a_p0_0_0 (p0_0_0).length c_p0_0_0, Vi p0_0_1, Vi p0_1_0, .slice a_p0_1_1 (p0_1_1).length c_p0_1_1, .slice a0' (r.2.2.1).length c0', .slice a3' (r.2.2.2).length c3', Vi r.1, Vi r.2.1] 109 (0, 0)) ∧ OwnR (eInt .i64) 3 22 w' B2' a0' c0' r.2.2.1 none ∧ OwnR (eInt .i64) 3 22 w' B5' a3' c3' r.2.2.2 none ∧ MS w' [[b_p0], B2', B5', M] ∧ FR w.heap.size [] ∧ NP (fl [[b_p0], B_p0_2, B_p0_3]) w.heap.size [[b_p0], B2', B5'] := by
 refine calls_vc hmx Tryz.func86 (by kernel_rfl) rfl (rs := []) rfl (by kernel_rfl) (args := [Vp b_p0 0, Vi p1]) rfl ?_
 have hev : Ev (fl [[b_p0], B_p0_2, B_p0_3]) w w := Ev.refl _ _
 have hfr : FR w.heap.size [] := FR.nil _
 have hpr : NP (fl [[b_p0], B_p0_2, B_p0_3]) w.heap.size [[b_p0], B_p0_2, B_p0_3] := NP.init _ _
 refine c_sp (x_u 2 [(10, Vp b_p0 0), (11, Vp b_p0 0)] (x_fieldAddr (xv := Vp b_p0 0) (Vp b_p0 6) rfl rfl rfl (reads_field tfld109_4 _ _) (x_load (xv := Vp b_p0 6) (Vi p0_4) rfl rfl rfl (reads_box tcell3 hb_p0 nn 6 _ rfl) (x_u 1 [(4, Vi p0_4)] (x_ek ?_)))))
 refine c_join (σ := (List (List Int)) × (List (List Int)) × Int × Option Addr × Nat × List Nat × Option Addr × Nat × List Nat) (fun s => match s with | (d3_j6, d4_j6, e5_j6_6, a3_j6, c3_j6, B3_j6, a4_j6, c4_j6, B4_j6) => [(0, Vp b_p0 0), (1, Vi p1), (4, Vi p0_4)]) (fun s w' => match s with | (d3_j6, d4_j6, e5_j6_6, a3_j6, c3_j6, B3_j6, a4_j6, c4_j6, B4_j6) => rollin_machine_at_J6 p0_0_0 p0_0_1 p0_1_0 p0_1_1 p0_4 p0_5 p1 d3_j6 d4_j6 e5_j6_6 = some r ∧ Ev (fl [[b_p0], B_p0_2, B_p0_3]) w w' ∧ MS w' [[b_p0], B3_j6, B4_j6, M] ∧ FR w.heap.size [] ∧ NP (fl [[b_p0], B_p0_2, B_p0_3]) w.heap.size [[b_p0], B3_j6, B4_j6] ∧ SlR (eIt4) w' (fl [[b_p0], B3_j6, B4_j6, M]) a_p0_0_0 c_p0_0_0 p0_0_0 ∧ SlR (eInt .i64) w' (fl [[b_p0], B3_j6, B4_j6, M]) a_p0_1_1 c_p0_1_1 p0_1_1 ∧ OwnR (eInt .i64) 3 22 w' B3_j6 a3_j6 c3_j6 d3_j6 none ∧ OwnR (eInt .i64) 3 22 w' B4_j6 a4_j6 c4_j6 d4_j6 none ∧ w'.heap[b_p0]? = some (.cells #[.slice a_p0_0_0 (p0_0_0).length c_p0_0_0, Vi p0_0_1, Vi p0_1_0, .slice a_p0_1_1 (p0_1_1).length c_p0_1_1, .slice a3_j6 (d3_j6).length c3_j6, .slice a4_j6 (d4_j6).length c4_j6, Vi e5_j6_6, Vi p0_5] 109 (0, 0))) ?_ ?_
 · refine c_sp (x_u 2 [(14, Vi p1), (15, .bool (decide (p1 > 0)))] (x_ek (c_if (decide (p1 > 0)) rfl h (fun h => ?_) (fun h => ?_))))
   · refine c_sp (x_u 2 [(16, Vp b_p0 0), (17, Vp b_p0 0)] (x_fieldAddr (xv := Vp b_p0 0) (Vp b_p0 4) rfl rfl rfl (reads_field tfld109_2 _ _) (x_load (xv := Vp b_p0 4) (.slice a_p0_2 (p0_2).length c_p0_2) rfl rfl rfl (reads_box tcell57 hb_p0 nn 4 _ rfl) (x_u 2 [(20, Vi p1), (21, Vi (IntKind.i64.wrap (p1 - 1)))] ?_))))
     obtain ⟨x7, hx7, h⟩ := bind_some h
     obtain ⟨g7, ai7, ci7, hr7, hv7⟩ := OwnR.view (P := Tryz.prog) (Mo := []) tsl57 hs_p0_2 hx7
     refine x_indexAddr (xv := .slice a_p0_2 (p0_2).length c_p0_2) (yv := Vi (IntKind.i64.wrap (p1 - 1))) (.pointer (some ⟨g7, (Int.toNat (IntKind.i64.wrap (p1 - 1))), none⟩)) rfl rfl rfl rfl hr7 (x_load (xv := .pointer (some ⟨g7, (Int.toNat (IntKind.i64.wrap (p1 - 1))), none⟩)) (.slice ai7 (x7).length ci7) rfl rfl rfl (RView.load tcell22 hv7) (x_u 1 [(5, .slice ai7 (x7).length ci7)] (x_ek (c_nm [(0, Vp b_p0 0), (1, Vi p1), (4, Vi p0_4), (5, .slice ai7 (x7).length ci7)] (fun J => ?_)))))
     refine c_sp (x_u 2 [(24, Vp b_p0 0), (25, Vp b_p0 0)] (x_fieldAddr (xv := Vp b_p0 0) (Vp b_p0 4) rfl rfl rfl (reads_field tfld109_2 _ _) (x_load (xv := Vp b_p0 4) (.slice a_p0_2 (p0_2).length c_p0_2) rfl rfl rfl (reads_box tcell57 hb_p0 nn 4 _ rfl) (x_u 2 [(28, Vi p1), (29, Vi (IntKind.i64.wrap (p1 - 1)))] ?_))))
     obtain ⟨x9, hx9, h⟩ := bind_some h
     obtain ⟨g9, ai9, ci9, hr9, hv9⟩ := OwnR.view (P := Tryz.prog) (Mo := []) tsl57 hs_p0_2 hx9
     refine x_indexAddr (xv := .slice a_p0_2 (p0_2).length c_p0_2) (yv := Vi (IntKind.i64.wrap (p1 - 1))) (.pointer (some ⟨g9, (Int.toNat (IntKind.i64.wrap (p1 - 1))), none⟩)) rfl rfl rfl rfl hr9 ?_
     obtain ⟨B11, hR11, ho11, hs1, hs2, hs3⟩ := OwnR.opn hs_p0_2 hv7
     replace hs_p0_2 := hR11
     have hms2 := hms.split 1 rfl hs2 hs1 hs3
     have hsu : ∀ x ∈ fl [blk ai7, [b_p0], B11, B_p0_3, M], x ∈ fl [[b_p0], B_p0_2, B_p0_3, M] := fun x hx => split_sub (ls := [[b_p0], B_p0_2, B_p0_3, M]) 1 rfl hs2 hs1 x (pick_sub [some 0, some 1, some 2, some 3, some 4] _ rfl x hx)
     replace hms : MS w [blk ai7, [b_p0], B11, B_p0_3, M] := hms2.pick [some 0, some 1, some 2, some 3, some 4] _ rfl
     replace hpr : NP (fl [[b_p0], B_p0_2, B_p0_3]) w.heap.size [blk ai7, [b_p0], B11, B_p0_3] := (NP.cons (fun b hb => hpr.at 1 rfl b (hs2 b hb)) (NP.cons (hpr.at 0 rfl) (NP.cons (fun b hb => hpr.at 1 rfl b (hs1 b hb)) (NP.cons (hpr.at 2 rfl) (NP.nil _ _)))))
     replace hs_p0_0_0 := hs_p0_0_0.sub hsu
     replace hs_p0_1_1 := hs_p0_1_1.sub hsu
     replace ho11 := OwnS.plain (M' := fl [blk ai7, [b_p0], B11, B_p0_3, M]) (plain_int _) ho11
     have hg11 := hv7.eq
     have hx11 := hv7.at_
     clear hv7 hms2 hs1 hs2 hs3 hsu
     have hg11_10 := hv9.eq
     have hx11_10 := hv9.at_
     clear hv9
     obtain ⟨w13, B13, hr13, he13, hn13, hR13⟩ := OwnR.cls (P := Tryz.prog) (plain_int _) tcell22 hs_p0_2 hg11_10 hx11_10 (OwnS.nil (eInt .i64) 3 w []) (fun x hx => by cases hx) (hms.ltat 2 rfl)
     refine x_store w13 (xv := .pointer (some ⟨g9, (Int.toNat (IntKind.i64.wrap (p1 - 1))), none⟩)) (yv := .slice none 0 0) rfl rfl rfl rfl hr13 (inl1 ?_)
     have hst : Stp (fl [blk ai7, [b_p0], B11, B_p0_3, M]) w (fl [blk ai7, [b_p0], B13, B_p0_3, M]) w13 := Stp.upd 2 he13 rfl (fun b hb => (hn13 b hb).1)
     replace hs_p0_0_0 := hs_p0_0_0.step hst
     replace hs_p0_1_1 := hs_p0_1_1.step hst
     replace hs_p0_3 := hs_p0_3.step (plain_int _) he13 (hms.apart 3 2 rfl rfl rfl)
     replace hb_p0 := he13.box hb_p0 (hms.apart 1 2 rfl rfl rfl _ mem1)
     replace ho11 := ho11.step hst he13 (hms.apart 0 2 rfl rfl rfl)
     replace hms : MS w13 [blk ai7, [b_p0], B13, B_p0_3, M] := hms.upd 2 he13 rfl hn13
     have hpr2 : NP (fl [[b_p0], B_p0_2, B_p0_3]) w.heap.size [blk ai7, [b_p0], B13, B_p0_3] := (NP.cons (hpr.at 0 rfl) (NP.cons (hpr.at 1 rfl) (NP.cons (fun b hb => (hn13 b hb).1.elim (fun h => hpr.at 2 rfl b h) (fun h => .inr (Nat.le_trans hev.size h))) (NP.cons (hpr.at 3 rfl) (NP.nil _ _)))))
     replace hev := hev.then he13 (hpr.at 2 rfl)
     replace hpr := hpr2
     clear hpr2
     replace hs_p0_2 := hR13
     have hsl : (Value.slice a_p0_2 (p0_2).length c_p0_2) = (Value.slice a_p0_2 ((p0_2.set (Int.toNat (IntKind.i64.wrap (p1 - 1))) ([] : List Int))).length c_p0_2) := by first | (rw [List.length_set]; done) | simp only [List.length_set]
     rw [hsl] at hb_p0
     try rw [hsl]
     clear hsl
     refine x_ek (c_sp (x_u 1 [(31, .slice ai7 (x7).length ci7)] (x_len (vs := [.slice ai7 (x7).length ci7]) (Vi ((x7).length : Int)) rfl rfl rfl (reads_len tsl22 _ _ _ _ _) (x_u 1 [(33, Vi 0)] (x_ek ?_)))))
     refine c_block ?_
     obtain ⟨d14, hd14, h14⟩ := bind_some h
     obtain ⟨m14, hd14⟩ := loop_some hd14
     refine c_loop (loop_rule hmx (σ := Nat × (List (List Int)) × (List (List Int)) × Int × Int × Option Addr × Nat × List Nat × Option Addr × Nat × List Nat) (fun s => match s with | (_, d3_l14, d4_l14, e5_l14_6, t33__s33_l14, a3_l14, c3_l14, B3_l14, a4_l14, c4_l14, B4_l14) => [(0, Vp b_p0 0), (1, Vi p1), (4, Vi p0_4), (31, .slice ai7 (x7).length ci7), (32, Vi ((x7).length : Int)), (33, Vi t33__s33_l14)]) (fun s w' => match s with | (m, d3_l14, d4_l14, e5_l14_6, t33__s33_l14, a3_l14, c3_l14, B3_l14, a4_l14, c4_l14, B4_l14) => loopN (rollin_machine_at_L14 p0_0_0 p0_0_1 p0_1_0 p0_1_1 p0_5 p1 x7) m (d3_l14, d4_l14, e5_l14_6, t33__s33_l14) = some d14 ∧ Ev (fl [[b_p0], B_p0_2, B_p0_3]) w w' ∧ MS w' [blk ai7, [b_p0], B3_l14, B4_l14, M] ∧ FR w.heap.size [] ∧ NP (fl [[b_p0], B_p0_2, B_p0_3]) w.heap.size [blk ai7, [b_p0], B3_l14, B4_l14] ∧ SlR (eIt4) w' (fl [blk ai7, [b_p0], B3_l14, B4_l14, M]) a_p0_0_0 c_p0_0_0 p0_0_0 ∧ SlR (eInt .i64) w' (fl [blk ai7, [b_p0], B3_l14, B4_l14, M]) a_p0_1_1 c_p0_1_1 p0_1_1 ∧ OwnR (eInt .i64) 3 22 w' B3_l14 a3_l14 c3_l14 d3_l14 none ∧ OwnR (eInt .i64) 3 22 w' B4_l14 a4_l14 c4_l14 d4_l14 none ∧ w'.heap[b_p0]? = some (.cells #[.slice a_p0_0_0 (p0_0_0).length c_p0_0_0, Vi p0_0_1, Vi p0_1_0, .slice a_p0_1_1 (p0_1_1).length c_p0_1_1, .slice a3_l14 (d3_l14).length c3_l14, .slice a4_l14 (d4_l14).length c4_l14, Vi e5_l14_6, Vi p0_5] 109 (0, 0)) ∧ OwnS (eInt .i64) 3 w' (fl [blk ai7, [b_p0], B3_l14, B4_l14, M]) ai7 ci7 x7) (fun s => s.1) (m14, (p0_2.set (Int.toNat (IntKind.i64.wrap (p1 - 1))) ([] : List Int)), p0_3, p0_4, 0, a_p0_2, c_p0_2, B13, a_p0_3, c_p0_3, B_p0_3) ⟨rfl, rfl, rfl, rfl, rfl, rfl, trivial⟩ ⟨hd14, hev, hms, hfr, hpr, hs_p0_0_0, hs_p0_1_1, hs_p0_2, hs_p0_3, hb_p0, ho11⟩ ?_)
     rintro ⟨m14, d3_l14, d4_l14, e5_l14_6, t33__s33_l14, a3_l14, c3_l14, B3_l14, a4_l14, c4_l14, B4_l14⟩ J wl14 ⟨hn14, hev, hms, hfr, hpr, hs_p0_0_0, hs_p0_1_1, hs_p0_2, hs_p0_3, hb_p0, ho11⟩
     rcases m14 with _ | m14
     · exact (loopN_zero hn14).elim
     obtain ⟨t14, h, hn14⟩ := bind_some hn14
     refine c_sp (x_u 1 [(34, .bool (decide (t33__s33_l14 < ((x7).length : Int))))] (x_ek (c_nm [(0, Vp b_p0 0), (1, Vi p1), (4, Vi p0_4), (31, .slice ai7 (x7).length ci7), (32, Vi ((x7).length : Int)), (33, Vi t33__s33_l14), (34, .bool (decide (t33__s33_l14 < ((x7).length : Int))))] (fun J => ?_))))
     refine c_seq (c_if (decide (t33__s33_l14 < ((x7).length : Int))) rfl h (fun h => ?_) (fun h => ?_))
     · refine c_skip (k_then (c_seq (c_block (c_sp ?_))))
       obtain ⟨x16, hx16, h⟩ := bind_some h
       obtain ⟨g16, cs16, ha16, hr16, hc16, hR⟩ := own_index (Mo := []) tsl22 ho11 hx16
       obtain rfl := hR
       refine x_indexAddr (xv := .slice ai7 (x7).length ci7) (yv := Vi t33__s33_l14) (.pointer (some ⟨g16, (Int.toNat t33__s33_l14) * (eInt .i64).n, none⟩)) rfl rfl rfl rfl hr16 (x_load (xv := .pointer (some ⟨g16, (Int.toNat t33__s33_l14) * (eInt .i64).n, none⟩)) (Vi x16) rfl rfl rfl (reads_cell0 tcell3 hc16 (fun _ h => by cases h)) ?_)
       refine x_u 1 [(7, Vi x16)] (x_ek (c_plain (x_u 3 [(37, Vp b_p0 0), (38, Vi x16), (39, Vi p1)] ?_)))
       obtain ⟨x18, hx, h⟩ := bind_some h
       have hpk : MS wl14 ([[b_p0], B3_l14, B4_l14] ++ [blk ai7, M]) := hms.pick [some 1, some 2, some 3, some 0, some 4] _ rfl
       have hsb0 : ∀ x ∈ fl ([[b_p0], B3_l14, B4_l14] ++ [blk ai7, M]), x ∈ fl [blk ai7, [b_p0], B3_l14, B4_l14, M] := pick_sub [some 1, some 2, some 3, some 0, some 4] _ rfl
       have hsb : ∀ x ∈ fl ([[b_p0], B3_l14, B4_l14] ++ [(fl [blk ai7, M])]), x ∈ fl [blk ai7, [b_p0], B3_l14, B4_l14, M] := fun x hx => hsb0 x (fl_unfold x hx)
       have hcall := rollin_machine_push_w b_p0 a_p0_0_0 c_p0_0_0 p0_0_0 p0_0_1 p0_1_0 a_p0_1_1 c_p0_1_1 p0_1_1 a3_l14 c3_l14 B3_l14 d3_l14 a4_l14 c4_l14 B4_l14 d4_l14 e5_l14_6 p0_5 x16 p1 _ wl14 (fl [blk ai7, M]) (hpk.fold (P := [[b_p0], B3_l14, B4_l14])) (hs_p0_0_0.sub hsb) (hs_p0_1_1.sub hsb) hs_p0_2 hs_p0_3 hb_p0 hx
       refine x_call 116 #[] #[] [Vp b_p0 0, Vi x16, Vi p1] _ rfl rfl rfl rfl hcall ?_
       rintro v w19 ⟨a0_19, c0_19, B2_19, a3_19, c3_19, B5_19, rfl, he19, hp19_0, hp19_1, hp19_2, hmn19, hfn19, hnp19⟩
       clear hcall hx
       refine inl1 ?_
       have hpk2 : MS wl14 ([[b_p0], B3_l14, B4_l14] ++ [blk ai7, M]) := hms.pick [some 1, some 2, some 3, some 0, some 4] _ rfl
       have hsb2 : ∀ x ∈ fl ([[b_p0], B3_l14, B4_l14] ++ [blk ai7, M]), x ∈ fl [blk ai7, [b_p0], B3_l14, B4_l14, M] := pick_sub [some 1, some 2, some 3, some 0, some 4] _ rfl
       have hst0 := Stp.call (LS := [blk ai7, [b_p0], B3_l14, B4_l14, M]) (res := []) (par := [[b_p0], B2_19, B5_19]) (R := [blk ai7, M]) he19 (fun b hb => hsb2 b (fl_left' (P := [[b_p0], B3_l14, B4_l14]) b hb)) hfn19 hnp19 (fun x hx => hsb2 x (fl_right' (P := [[b_p0], B3_l14, B4_l14]) x hx))
       have hsn : ∀ x ∈ fl [blk ai7, [b_p0], B2_19, B5_19, M], x ∈ fl ([] ++ ([[b_p0], B2_19, B5_19] ++ [blk ai7, M])) := pick_sub [some 3, some 0, some 1, some 2, some 4] _ rfl
       have hst := hst0.res hsn
       replace hs_p0_0_0 := hs_p0_0_0.step hst
       replace hs_p0_1_1 := hs_p0_1_1.step hst
       replace ho11 := ho11.step hst he19 (MS.outs (P := [[b_p0], B3_l14, B4_l14]) hpk2 0 rfl)
       replace hms : MS w19 [blk ai7, [b_p0], B2_19, B5_19, M] := (MS.call (P := [[b_p0], B3_l14, B4_l14]) (R := [blk ai7, M]) (res := []) (par := [[b_p0], B2_19, B5_19]) hpk2 he19 hmn19 hfn19 hnp19).pick [some 3, some 0, some 1, some 2, some 4] _ rfl
       have hPf : ∀ b ∈ fl [[b_p0], B3_l14, B4_l14], b ∈ (fl [[b_p0], B_p0_2, B_p0_3]) ∨ w.heap.size ≤ b := NP.mem (ls := [[b_p0], B3_l14, B4_l14]) (hpr.pick [some 1, some 2, some 3] _ rfl)
       have hpr2 : NP (fl [[b_p0], B_p0_2, B_p0_3]) w.heap.size [blk ai7, [b_p0], B2_19, B5_19] := (NP.cons (hpr.at 0 rfl) (NP.cons (fun b hb => (hnp19.at 0 rfl b hb).elim (fun h => hPf b h) (fun h => .inr (Nat.le_trans hev.size h))) (NP.cons (fun b hb => (hnp19.at 1 rfl b hb).elim (fun h => hPf b h) (fun h => .inr (Nat.le_trans hev.size h))) (NP.cons (fun b hb => (hnp19.at 2 rfl b hb).elim (fun h => hPf b h) (fun h => .inr (Nat.le_trans hev.size h))) (NP.nil _ _)))))
       replace hev := hev.then he19 hPf
       replace hpr := hpr2
       clear hpr2
       replace hb_p0 := hp19_0
       replace hs_p0_2 := hp19_1
       replace hs_p0_3 := hp19_2
       clear hpk hsb hsb0 hpk2 hsb2 hst0 hsn hst
       refine x_end rfl (k_block (k_then (c_plain (x_u 2 [(41, Vi (IntKind.i64.wrap (t33__s33_l14 + 1))), (33, Vi (IntKind.i64.wrap (t33__s33_l14 + 1)))] (x_end rfl ?_)))))
       obtain rfl := some_inj h
       exact k_then ⟨(m14, x18.2.1, x18.2.2, x18.1, IntKind.i64.wrap (t33__s33_l14 + 1), a0_19, c0_19, B2_19, a3_19, c3_19, B5_19), ⟨rfl, rfl, rfl, rfl, rfl, rfl, trivial⟩, ⟨hn14, hev, hms, hfr, hpr, hs_p0_0_0, hs_p0_1_1, hs_p0_2, hs_p0_3, hb_p0, ho11⟩, Nat.lt_succ_self _⟩
     refine c_exit (k_then_exit ?_)
     obtain rfl := some_inj h
     have hy := some_inj hn14
     subst hy
     replace h := h14
     refine k_then_exit (k_block_in ?_)
     have hpk := hms.pick [some 1, some 2, some 3, some 4] [[b_p0], B3_l14, B4_l14, M] rfl
     have hsu := pick_sub (ls := [blk ai7, [b_p0], B3_l14, B4_l14, M]) [some 1, some 2, some 3, some 4] [[b_p0], B3_l14, B4_l14, M] rfl
     replace hs_p0_0_0 := hs_p0_0_0.sub hsu
     replace hs_p0_1_1 := hs_p0_1_1.sub hsu
     replace hms := hpk
     replace hfr := hfr.pick [] [] rfl
     replace hpr : NP (fl [[b_p0], B_p0_2, B_p0_3]) w.heap.size [[b_p0], B3_l14, B4_l14] := (NP.cons (hpr.at 1 rfl) (NP.cons (hpr.at 2 rfl) (NP.cons (hpr.at 3 rfl) (NP.nil _ _))))
     clear hpk hsu
     exact k_then ⟨(d3_l14, d4_l14, e5_l14_6, a3_l14, c3_l14, B3_l14, a4_l14, c4_l14, B4_l14), ⟨rfl, rfl, rfl, trivial⟩, h, hev, hms, hfr, hpr, hs_p0_0_0, hs_p0_1_1, hs_p0_2, hs_p0_3, hb_p0⟩
   refine c_skip ?_
   exact k_then ⟨(p0_2, p0_3, p0_4, a_p0_2, c_p0_2, B_p0_2, a_p0_3, c_p0_3, B_p0_3), ⟨rfl, rfl, rfl, trivial⟩, h, hev, hms, hfr, hpr, hs_p0_0_0, hs_p0_1_1, hs_p0_2, hs_p0_3, hb_p0⟩
 rintro ⟨d3_j6, d4_j6, e5_j6_6, a3_j6, c3_j6, B3_j6, a4_j6, c4_j6, B4_j6⟩ J wj6 ⟨h, hev, hms, hfr, hpr, hs_p0_0_0, hs_p0_1_1, hs_p0_2, hs_p0_3, hb_p0⟩
 refine c_seq (c_sp (x_u 2 [(42, Vp b_p0 0), (43, Vp b_p0 0)] (x_fieldAddr (xv := Vp b_p0 0) (Vp b_p0 0) rfl rfl rfl (reads_field tfld109_0 _ _) (x_fieldAddr (xv := Vp b_p0 0) (Vp b_p0 0) rfl rfl rfl (reads_field tfld50_0 _ _) (x_load (xv := Vp b_p0 0) (.slice a_p0_0_0 (p0_0_0).length c_p0_0_0) rfl rfl rfl (reads_box tcell36 hb_p0 nn 0 _ rfl) ?_)))))
 refine x_len (vs := [.slice a_p0_0_0 (p0_0_0).length c_p0_0_0]) (Vi ((p0_0_0).length : Int)) rfl rfl rfl (reads_len tsl36 _ _ _ _ _) (x_u 1 [(48, Vi 0)] (x_ek (c_nm [(0, Vp b_p0 0), (1, Vi p1), (4, Vi p0_4), (46, .slice a_p0_0_0 (p0_0_0).length c_p0_0_0), (47, Vi ((p0_0_0).length : Int)), (48, Vi 0)] (fun J => ?_))))
 refine c_block ?_
 obtain ⟨d21, hd21, h21⟩ := bind_some h
 obtain ⟨m21, hd21⟩ := loop_some hd21
 refine c_loop (loop_rule hmx (σ := Nat × (List (List Int)) × (List (List Int)) × Int × Int × Option Addr × Nat × List Nat × Option Addr × Nat × List Nat) (fun s => match s with | (_, d3_l21, d4_l21, e5_l21_6, t48__s48_l21, a3_l21, c3_l21, B3_l21, a4_l21, c4_l21, B4_l21) => [(0, Vp b_p0 0), (1, Vi p1), (4, Vi p0_4), (46, .slice a_p0_0_0 (p0_0_0).length c_p0_0_0), (47, Vi ((p0_0_0).length : Int)), (48, Vi t48__s48_l21)]) (fun s w' => match s with | (m, d3_l21, d4_l21, e5_l21_6, t48__s48_l21, a3_l21, c3_l21, B3_l21, a4_l21, c4_l21, B4_l21) => loopN (rollin_machine_at_L21 p0_0_0 p0_0_1 p0_1_0 p0_1_1 p0_5 p1) m (d3_l21, d4_l21, e5_l21_6, t48__s48_l21) = some d21 ∧ Ev (fl [[b_p0], B_p0_2, B_p0_3]) w w' ∧ MS w' [[b_p0], B3_l21, B4_l21, M] ∧ FR w.heap.size [] ∧ NP (fl [[b_p0], B_p0_2, B_p0_3]) w.heap.size [[b_p0], B3_l21, B4_l21] ∧ SlR (eIt4) w' (fl [[b_p0], B3_l21, B4_l21, M]) a_p0_0_0 c_p0_0_0 p0_0_0 ∧ SlR (eInt .i64) w' (fl [[b_p0], B3_l21, B4_l21, M]) a_p0_1_1 c_p0_1_1 p0_1_1 ∧ OwnR (eInt .i64) 3 22 w' B3_l21 a3_l21 c3_l21 d3_l21 none ∧ OwnR (eInt .i64) 3 22 w' B4_l21 a4_l21 c4_l21 d4_l21 none ∧ w'.heap[b_p0]? = some (.cells #[.slice a_p0_0_0 (p0_0_0).length c_p0_0_0, Vi p0_0_1, Vi p0_1_0, .slice a_p0_1_1 (p0_1_1).length c_p0_1_1, .slice a3_l21 (d3_l21).length c3_l21, .slice a4_l21 (d4_l21).length c4_l21, Vi e5_l21_6, Vi p0_5] 109 (0, 0))) (fun s => s.1) (m21, d3_j6, d4_j6, e5_j6_6, 0, a3_j6, c3_j6, B3_j6, a4_j6, c4_j6, B4_j6) ⟨rfl, rfl, rfl, rfl, rfl, rfl, trivial⟩ ⟨hd21, hev, hms, hfr, hpr, hs_p0_0_0, hs_p0_1_1, hs_p0_2, hs_p0_3, hb_p0⟩ ?_)
 rintro ⟨m21, d3_l21, d4_l21, e5_l21_6, t48__s48_l21, a3_l21, c3_l21, B3_l21, a4_l21, c4_l21, B4_l21⟩ J wl21 ⟨hn21, hev, hms, hfr, hpr, hs_p0_0_0, hs_p0_1_1, hs_p0_2, hs_p0_3, hb_p0⟩
 rcases m21 with _ | m21
 · exact (loopN_zero hn21).elim
 obtain ⟨t21, h, hn21⟩ := bind_some hn21
 refine c_sp (x_u 1 [(49, .bool (decide (t48__s48_l21 < ((p0_0_0).length : Int))))] (x_ek (c_nm [(0, Vp b_p0 0), (1, Vi p1), (4, Vi p0_4), (46, .slice a_p0_0_0 (p0_0_0).length c_p0_0_0), (47, Vi ((p0_0_0).length : Int)), (48, Vi t48__s48_l21), (49, .bool (decide (t48__s48_l21 < ((p0_0_0).length : Int))))] (fun J => ?_))))
 refine c_seq (c_if (decide (t48__s48_l21 < ((p0_0_0).length : Int))) rfl h (fun h => ?_) (fun h => ?_))
 · refine c_skip (k_then (c_seq (c_block (c_sp (x_u 1 [(50, Vi t48__s48_l21)] ?_)))))
   obtain ⟨x23, hx23, h⟩ := bind_some h
   obtain ⟨ad23, cs23, hr23, hc23, hR⟩ := reads_index (Mo := []) tsl36 hs_p0_0_0 hx23
   obtain ⟨_, _, rfl, rfl, ⟨_, _, rfl, rfl, ⟨_, _, rfl, rfl, rfl⟩⟩⟩ := hR
   refine x_indexAddr (xv := .slice a_p0_0_0 (p0_0_0).length c_p0_0_0) (yv := Vi t48__s48_l21) (.pointer (some ad23)) rfl rfl rfl rfl hr23 (x_load (xv := .pointer (some ad23)) (.agg #[Vi x23.1, Vi x23.2.1, Vi x23.2.2.1, Vi x23.2.2.2]) rfl rfl rfl (reads_agg tagg76 hc23 (fun _ h => by cases h)) ?_)
   refine x_alloc (z := .agg #[Vi 0, Vi 0, Vi 0, Vi 0]) rfl rfl (by kernel_rfl) (fun b25 w25 hq25 hb25 he25 hz25 => ?_)
   replace hb25 : w25.heap[b25]? = some (.cells #[Vi 0, Vi 0, Vi 0, Vi 0] 76 (0, 0)) := hb25
   refine inl1 ?_
   have hst := Stp.box (ls := [[b_p0], B3_l21, B4_l21, M]) he25 hq25
   replace hb_p0 := he25.box hb_p0 nn
   replace hs_p0_0_0 := hs_p0_0_0.step hst
   replace hs_p0_1_1 := hs_p0_1_1.step hst
   replace hs_p0_2 := hs_p0_2.step (plain_int _) he25 nn2
   replace hs_p0_3 := hs_p0_3.step (plain_int _) he25 nn2
   replace hms := hms.box he25 hq25 hb25
   replace hfr := hfr.box hev.size hq25
   replace hev := hev.ext he25
   refine x_u 1 [(8, Vi t48__s48_l21)] ?_
   obtain ⟨w27, hr27, hb27, he27⟩ := store_boxagg 0 [Vi x23.1, Vi x23.2.1, Vi x23.2.2.1, Vi x23.2.2.2] #[Vi x23.1, Vi x23.2.1, Vi x23.2.2.1, Vi x23.2.2.2] tagg76 hb25 rfl rfl rfl
   refine x_store w27 (xv := Vp b25 0) (yv := .agg #[Vi x23.1, Vi x23.2.1, Vi x23.2.2.1, Vi x23.2.2.2]) rfl rfl rfl rfl hr27 (inl1 ?_)
   have hst := Stp.ev' (ls := [[b25], [b_p0], B3_l21, B4_l21, M]) he27 (mem_flat 0 rfl)
   replace hb_p0 := he27.box hb_p0 (hms.apart 1 0 rfl rfl rfl _ mem1)
   replace hs_p0_0_0 := hs_p0_0_0.step hst
   replace hs_p0_1_1 := hs_p0_1_1.step hst
   replace hs_p0_2 := hs_p0_2.step (plain_int _) he27 (hms.apart 2 0 rfl rfl rfl)
   replace hs_p0_3 := hs_p0_3.step (plain_int _) he27 (hms.apart 3 0 rfl rfl rfl)
   replace hms := hms.ev he27
   replace hev := hev.then he27 (fun b hb => .inr (hfr.at 0 rfl b hb))
   replace hb25 := hb27
   refine x_ek (c_sp (x_fieldAddr (xv := Vp b25 0) (Vp b25 2) rfl rfl rfl (reads_field tfld76_2 _ _) (x_load (xv := Vp b25 2) (Vi x23.2.2.1) rfl rfl rfl (reads_box tcell3 hb25 nn 2 _ rfl) (x_u 2 [(55, Vi p1), (56, .bool (x23.2.2.1 == p1))] (x_ek ?_)))))
   refine c_if (x23.2.2.1 == p1) rfl h (fun h => ?_) (fun h => ?_)
   · refine c_plain (x_u 3 [(57, Vp b_p0 0), (58, Vi t48__s48_l21), (59, Vi p1)] ?_)
     obtain ⟨x28, hx, h⟩ := bind_some h
     have hpk : MS w27 ([[b_p0], B3_l21, B4_l21] ++ [[b25], M]) := hms.pick [some 1, some 2, some 3, some 0, some 4] _ rfl
     have hsb0 : ∀ x ∈ fl ([[b_p0], B3_l21, B4_l21] ++ [[b25], M]), x ∈ fl [[b25], [b_p0], B3_l21, B4_l21, M] := pick_sub [some 1, some 2, some 3, some 0, some 4] _ rfl
     have hsb : ∀ x ∈ fl ([[b_p0], B3_l21, B4_l21] ++ [(fl [[b25], M])]), x ∈ fl [[b25], [b_p0], B3_l21, B4_l21, M] := fun x hx => hsb0 x (fl_unfold x hx)
     have hcall := rollin_machine_push_w b_p0 a_p0_0_0 c_p0_0_0 p0_0_0 p0_0_1 p0_1_0 a_p0_1_1 c_p0_1_1 p0_1_1 a3_l21 c3_l21 B3_l21 d3_l21 a4_l21 c4_l21 B4_l21 d4_l21 e5_l21_6 p0_5 t48__s48_l21 p1 _ w27 (fl [[b25], M]) (hpk.fold (P := [[b_p0], B3_l21, B4_l21])) (hs_p0_0_0.sub hsb) (hs_p0_1_1.sub hsb) hs_p0_2 hs_p0_3 hb_p0 hx
     refine x_call 116 #[] #[] [Vp b_p0 0, Vi t48__s48_l21, Vi p1] _ rfl rfl rfl rfl hcall ?_
     rintro v w29 ⟨a0_29, c0_29, B2_29, a3_29, c3_29, B5_29, rfl, he29, hp29_0, hp29_1, hp29_2, hmn29, hfn29, hnp29⟩
     clear hcall hx
     refine inl1 ?_
     have hpk2 : MS w27 ([[b_p0], B3_l21, B4_l21] ++ [[b25], M]) := hms.pick [some 1, some 2, some 3, some 0, some 4] _ rfl
     have hsb2 : ∀ x ∈ fl ([[b_p0], B3_l21, B4_l21] ++ [[b25], M]), x ∈ fl [[b25], [b_p0], B3_l21, B4_l21, M] := pick_sub [some 1, some 2, some 3, some 0, some 4] _ rfl
     have hst0 := Stp.call (LS := [[b25], [b_p0], B3_l21, B4_l21, M]) (res := []) (par := [[b_p0], B2_29, B5_29]) (R := [[b25], M]) he29 (fun b hb => hsb2 b (fl_left' (P := [[b_p0], B3_l21, B4_l21]) b hb)) hfn29 hnp29 (fun x hx => hsb2 x (fl_right' (P := [[b_p0], B3_l21, B4_l21]) x hx))
     have hsn : ∀ x ∈ fl [[b25], [b_p0], B2_29, B5_29, M], x ∈ fl ([] ++ ([[b_p0], B2_29, B5_29] ++ [[b25], M])) := pick_sub [some 3, some 0, some 1, some 2, some 4] _ rfl
     have hst := hst0.res hsn
     replace hs_p0_0_0 := hs_p0_0_0.step hst
     replace hs_p0_1_1 := hs_p0_1_1.step hst
     replace hms : MS w29 [[b25], [b_p0], B2_29, B5_29, M] := (MS.call (P := [[b_p0], B3_l21, B4_l21]) (R := [[b25], M]) (res := []) (par := [[b_p0], B2_29, B5_29]) hpk2 he29 hmn29 hfn29 hnp29).pick [some 3, some 0, some 1, some 2, some 4] _ rfl
     have hPf : ∀ b ∈ fl [[b_p0], B3_l21, B4_l21], b ∈ (fl [[b_p0], B_p0_2, B_p0_3]) ∨ w.heap.size ≤ b := NP.mem (ls := [[b_p0], B3_l21, B4_l21]) (hpr.pick [some 0, some 1, some 2] _ rfl)
     have hpr2 : NP (fl [[b_p0], B_p0_2, B_p0_3]) w.heap.size [[b_p0], B2_29, B5_29] := (NP.cons (fun b hb => (hnp29.at 0 rfl b hb).elim (fun h => hPf b h) (fun h => .inr (Nat.le_trans hev.size h))) (NP.cons (fun b hb => (hnp29.at 1 rfl b hb).elim (fun h => hPf b h) (fun h => .inr (Nat.le_trans hev.size h))) (NP.cons (fun b hb => (hnp29.at 2 rfl b hb).elim (fun h => hPf b h) (fun h => .inr (Nat.le_trans hev.size h))) (NP.nil _ _))))
     replace hev := hev.then he29 hPf
     replace hpr := hpr2
     clear hpr2
     replace hb_p0 := hp29_0
     replace hs_p0_2 := hp29_1
     replace hs_p0_3 := hp29_2
     clear hpk hsb hsb0 hpk2 hsb2 hst0 hsn hst
     refine x_end rfl (k_block (k_then (c_nm [(0, Vp b_p0 0), (1, Vi p1), (4, Vi p0_4), (46, .slice a_p0_0_0 (p0_0_0).length c_p0_0_0), (47, Vi ((p0_0_0).length : Int)), (48, Vi t48__s48_l21)] (fun J => ?_))))
     refine c_plain (x_u 2 [(61, Vi (IntKind.i64.wrap (t48__s48_l21 + 1))), (48, Vi (IntKind.i64.wrap (t48__s48_l21 + 1)))] (x_end rfl ?_))
     obtain rfl := some_inj h
     have hpk := hms.pick [some 1, some 2, some 3, some 4] [[b_p0], B2_29, B5_29, M] rfl
     have hsu := pick_sub (ls := [[b25], [b_p0], B2_29, B5_29, M]) [some 1, some 2, some 3, some 4] [[b_p0], B2_29, B5_29, M] rfl
     replace hs_p0_0_0 := hs_p0_0_0.sub hsu
     replace hs_p0_1_1 := hs_p0_1_1.sub hsu
     replace hms := hpk
     replace hfr := hfr.pick [] [] rfl
     clear hpk hsu
     exact k_then ⟨(m21, x28.2.1, x28.2.2, x28.1, IntKind.i64.wrap (t48__s48_l21 + 1), a0_29, c0_29, B2_29, a3_29, c3_29, B5_29), ⟨rfl, rfl, rfl, rfl, rfl, rfl, trivial⟩, ⟨hn21, hev, hms, hfr, hpr, hs_p0_0_0, hs_p0_1_1, hs_p0_2, hs_p0_3, hb_p0⟩, Nat.lt_succ_self _⟩
   refine c_skip (k_block (k_then (c_plain (x_u 2 [(61, Vi (IntKind.i64.wrap (t48__s48_l21 + 1))), (48, Vi (IntKind.i64.wrap (t48__s48_l21 + 1)))] (x_end rfl ?_)))))
   obtain rfl := some_inj h
   have hpk := hms.pick [some 1, some 2, some 3, some 4] [[b_p0], B3_l21, B4_l21, M] rfl
   have hsu := pick_sub (ls := [[b25], [b_p0], B3_l21, B4_l21, M]) [some 1, some 2, some 3, some 4] [[b_p0], B3_l21, B4_l21, M] rfl
   replace hs_p0_0_0 := hs_p0_0_0.sub hsu
   replace hs_p0_1_1 := hs_p0_1_1.sub hsu
   replace hms := hpk
   replace hfr := hfr.pick [] [] rfl
   clear hpk hsu
   exact k_then ⟨(m21, d3_l21, d4_l21, e5_l21_6, IntKind.i64.wrap (t48__s48_l21 + 1), a3_l21, c3_l21, B3_l21, a4_l21, c4_l21, B4_l21), ⟨rfl, rfl, rfl, rfl, rfl, rfl, trivial⟩, ⟨hn21, hev, hms, hfr, hpr, hs_p0_0_0, hs_p0_1_1, hs_p0_2, hs_p0_3, hb_p0⟩, Nat.lt_succ_self _⟩
 refine c_exit (k_then_exit ?_)
 obtain rfl := some_inj h
 have hy := some_inj hn21
 subst hy
 replace h := h21
 refine k_then_exit (k_block_in (k_then (c_nm [(0, Vp b_p0 0), (4, Vi p0_4)] (fun J => ?_))))
 refine c_sp (x_u 2 [(62, Vp b_p0 0), (63, Vp b_p0 0)] (x_fieldAddr (xv := Vp b_p0 0) (Vp b_p0 6) rfl rfl rfl (reads_field tfld109_4 _ _) (x_load (xv := Vp b_p0 6) (Vi e5_l21_6) rfl rfl rfl (reads_box tcell3 hb_p0 nn 6 _ rfl) (x_u 2 [(66, Vi p0_4), (67, .bool (decide (e5_l21_6 > p0_4)))] (x_ek ?_)))))
 refine c_if (decide (e5_l21_6 > p0_4)) rfl h (fun h => ?_) (fun h => ?_)
 · refine c_plain (x_u 2 [(68, Vp b_p0 0), (69, Vp b_p0 0)] (x_fieldAddr (xv := Vp b_p0 0) (Vp b_p0 7) rfl rfl rfl (reads_field tfld109_5 _ _) (x_load (xv := Vp b_p0 7) (Vi p0_5) rfl rfl rfl (reads_box tcell3 hb_p0 nn 7 _ rfl) (x_u 2 [(72, Vi (IntKind.i64.wrap (p0_5 + 1))), (73, Vp b_p0 0)] (x_fieldAddr (xv := Vp b_p0 0) (Vp b_p0 7) rfl rfl rfl (reads_field tfld109_5 _ _) ?_)))))
   obtain ⟨w30, hr30, hb30, he30⟩ := store_box 7 (Vi (IntKind.i64.wrap (p0_5 + 1))) #[.slice a_p0_0_0 (p0_0_0).length c_p0_0_0, Vi p0_0_1, Vi p0_1_0, .slice a_p0_1_1 (p0_1_1).length c_p0_1_1, .slice a3_l21 (d3_l21).length c3_l21, .slice a4_l21 (d4_l21).length c4_l21, Vi e5_l21_6, Vi (IntKind.i64.wrap (p0_5 + 1))] tcell3 hb_p0 rfl rfl rfl
   refine x_store w30 (xv := Vp b_p0 7) (yv := Vi (IntKind.i64.wrap (p0_5 + 1))) rfl rfl rfl rfl hr30 (inl1 ?_)
   replace hs_p0_2 := hs_p0_2.step (plain_int _) he30 (hms.apart 1 0 rfl rfl rfl)
   replace hs_p0_3 := hs_p0_3.step (plain_int _) he30 (hms.apart 2 0 rfl rfl rfl)
   replace hms := hms.ev he30
   replace hev := hev.then he30 (hpr.at 0 rfl)
   replace hb_p0 := hb30
   refine x_end rfl (r_normal (r_vals [] trivial ?_))
   obtain rfl := some_inj h
   have hmr := hms.pick [some 0, some 1, some 2, some 3] [[b_p0], B3_l21, B4_l21, M] rfl
   have hfe := hfr.pick [] [] rfl
   exact ⟨a3_l21, c3_l21, B3_l21, a4_l21, c4_l21, B4_l21, rfl, hev, hb_p0, hs_p0_2, hs_p0_3, hmr, hfe, (NP.cons (hpr.at 0 rfl) (NP.cons (hpr.at 1 rfl) (NP.cons (hpr.at 2 rfl) (NP.nil _ _))))⟩
 refine c_skip (r_normal (r_vals [] trivial ?_))
 obtain rfl := some_inj h
 have hmr := hms.pick [some 0, some 1, some 2, some 3] [[b_p0], B3_l21, B4_l21, M] rfl
 have hfe := hfr.pick [] [] rfl
 exact ⟨a3_l21, c3_l21, B3_l21, a4_l21, c4_l21, B4_l21, rfl, hev, hb_p0, hs_p0_2, hs_p0_3, hmr, hfe, (NP.cons (hpr.at 0 rfl) (NP.cons (hpr.at 1 rfl) (NP.cons (hpr.at 2 rfl) (NP.nil _ _))))⟩
def rollin_run_L14 (p2 : Int) (x7 : (((List (Int × Int × Int × Int)) × Int) × (Int × (List Int)) × (List (List Int)) × (List (List Int)) × Int × Int)) (s : (List (List Int)) × (List (List Int)) × Int × Int × Int) : Option (Step ((List (List Int)) × (List (List Int)) × Int × Int × Int) ((List (List Int)) × (List (List Int)) × Int × Int)) :=
match s with
| (d12_l14, d13_l14, e9_l14_6, e9_l14_7, v_t_s8_l14) =>
(if (decide (v_t_s8_l14 ≤ p2)) = true then
((rollin_machine_at x7.1.1 x7.1.2 x7.2.1.1 x7.2.1.2 d12_l14 d13_l14 e9_l14_6 e9_l14_7 v_t_s8_l14).bind fun x16 =>
some (.next (x16.2.2.1, x16.2.2.2, x16.1, x16.2.1, IntKind.i64.wrap (v_t_s8_l14 + 1))))
else
some (.done (d12_l14, d13_l14, e9_l14_6, e9_l14_7)))
def rollin_run (p0_0 : List (Int × Int × Int × Int)) (p0_1 : Int) (p1_0 : Int) (p1_1 : List Int) (p2 : Int) : Option (((List (Int × Int × Int × Int)) × Int) × (Int × (List Int)) × (List (List Int)) × (List (List Int)) × Int × Int) :=
((rollin_start p0_0 p0_1 p1_0 p1_1).bind fun x7 =>
((loop (rollin_run_L14 p2 x7) (x7.2.2.1, x7.2.2.2.1, x7.2.2.2.2.1, x7.2.2.2.2.2, 0)).bind fun d => match d with
| (d12_x14, d13_x14, e9_x14_6, e9_x14_7) => some ((x7.1.1, x7.1.2), (x7.2.1.1, x7.2.1.2), d12_x14, d13_x14, e9_x14_6, e9_x14_7)))
theorem rollin_run_w (a_p0_0 : Option Addr) (c_p0_0 : Nat) (p0_0 : List (Int × Int × Int × Int)) (p0_1 : Int) (p1_0 : Int) (a_p1_1 : Option Addr) (c_p1_1 : Nat) (p1_1 : List Int) (p2 : Int) (r : (((List (Int × Int × Int × Int)) × Int) × (Int × (List Int)) × (List (List Int)) × (List (List Int)) × Int × Int)) (w : World) (M : List Nat) (hms : MS w [M]) (hs_p0_0 : SlR (eIt4) w (fl [M]) a_p0_0 c_p0_0 p0_0) (hs_p1_1 : SlR (eInt .i64) w (fl [M]) a_p1_1 c_p1_1 p1_1) (h : rollin_run p0_0 p0_1 p1_0 p1_1 p2 = some r) : CallVC Tryz.prog 54 [.agg #[Vl a_p0_0 p0_0 c_p0_0, Vi p0_1], .agg #[Vi p1_0, Vl a_p1_1 p1_1 c_p1_1], Vi p2] w fun v w' => ∃ (b0' : Nat), ∃ (a1' : Option Addr), ∃ (c1' : Nat), ∃ (a3' : Option Addr), ∃ (c3' : Nat), ∃ (a5' : Option Addr), ∃ (c5' : Nat), ∃ (B7' : List Nat), ∃ (a8' : Option Addr), ∃ (c8' : Nat), ∃ (B10' : List Nat), v = .pointer (some ⟨b0', 0, none⟩) ∧ Ev [] w w' ∧ MS w' [[b0'], B7', B10', M] ∧ FR w.heap.size [[b0'], B7', B10'] ∧ w'.heap[b0']? = some (.cells #[Vl a1' r.1.1 c1', Vi r.1.2, Vi r.2.1.1, Vl a3' r.2.1.2 c3', Vl a5' r.2.2.1 c5', Vl a8' r.2.2.2.1 c8', Vi r.2.2.2.2.1, Vi r.2.2.2.2.2] 109 (0, 0)) ∧ SlR (eIt4) w' (fl [[b0'], B7', B10', M]) a1' c1' r.1.1 ∧ SlR (eInt .i64) w' (fl [[b0'], B7', B10', M]) a3' c3' r.2.1.2 ∧ OwnR (eInt .i64) 3 22 w' B7' a5' c5' r.2.2.1 none ∧ OwnR (eInt .i64) 3 22 w' B10' a8' c8' r.2.2.2.1 none := by
 refine calls_vc hmx Tryz.func54 (by kernel_rfl) rfl (rs := [.tmp 6]) rfl (by kernel_rfl) (args := [.agg #[Vl a_p0_0 p0_0 c_p0_0, Vi p0_1], .agg #[Vi p1_0, Vl a_p1_1 p1_1 c_p1_1], Vi p2]) rfl ?_
 have hev : Ev [] w w := Ev.refl _ _
 have hfr : FR w.heap.size [] := FR.nil _
 refine c_sp (x_box (xv := .agg #[Vl a_p0_0 p0_0 c_p0_0, Vi p0_1]) rfl rfl rfl (fun b3 w3 hq3 hb3 he3 hz3 => ?_))
 replace hb3 : w3.heap[b3]? = some (.cells #[Vl a_p0_0 p0_0 c_p0_0, Vi p0_1] 50 (0, 0)) := hb3
 refine inl1 ?_
 have hst := Stp.box (ls := [M]) he3 hq3
 replace hs_p0_0 := hs_p0_0.step hst
 replace hs_p1_1 := hs_p1_1.step hst
 replace hms := hms.box he3 hq3 hb3
 replace hfr := hfr.box hev.size hq3
 replace hev := hev.ext he3
 refine x_box (xv := .agg #[Vi p1_0, Vl a_p1_1 p1_1 c_p1_1]) rfl rfl rfl (fun b5 w5 hq5 hb5 he5 hz5 => ?_)
 replace hb5 : w5.heap[b5]? = some (.cells #[Vi p1_0, Vl a_p1_1 p1_1 c_p1_1] 52 (0, 0)) := hb5
 refine inl1 ?_
 have hst := Stp.box (ls := [[b3], M]) he5 hq5
 replace hs_p0_0 := hs_p0_0.step hst
 replace hs_p1_1 := hs_p1_1.step hst
 replace hb3 := he5.box hb3 nn
 replace hms := hms.box he5 hq5 hb5
 replace hfr := hfr.box hev.size hq5
 replace hev := hev.ext he5
 refine x_u 1 [(6, .pointer none)] (x_ek (c_sp (x_load (xv := Vp b3 0) (.agg #[Vl a_p0_0 p0_0 c_p0_0, Vi p0_1]) rfl rfl rfl (reads_boxagg 0 [Vl a_p0_0 p0_0 c_p0_0, Vi p0_1] tagg50 hb3 nn rfl) (x_load (xv := Vp b5 0) (.agg #[Vi p1_0, Vl a_p1_1 p1_1 c_p1_1]) rfl rfl rfl (reads_boxagg 0 [Vi p1_0, Vl a_p1_1 p1_1 c_p1_1] tagg52 hb5 nn rfl) ?_))))
 obtain ⟨x7, hx, h⟩ := bind_some h
 have hcall := rollin_start_w a_p0_0 c_p0_0 p0_0 p0_1 p1_0 a_p1_1 c_p1_1 p1_1 _ w5 (fl [[b5], [b3], M]) (MS.fold (P := []) hms) (hs_p0_0.sub fl1) (hs_p1_1.sub fl1) hx
 refine x_call 70 #[] #[] [.agg #[Vl a_p0_0 p0_0 c_p0_0, Vi p0_1], .agg #[Vi p1_0, Vl a_p1_1 p1_1 c_p1_1]] _ rfl rfl rfl rfl hcall ?_
 rintro v w8 ⟨b0_8, a1_8, c1_8, a3_8, c3_8, a5_8, c5_8, B7_8, a8_8, c8_8, B10_8, rfl, he8, hmn8, hfn8, hf8_1, hf8_2, hf8_3, hf8_4, hf8_5⟩
 clear hcall hx
 refine inl1 ?_
 have hpk2 : MS w5 ([] ++ [[b5], [b3], M]) := hms.pick [some 0, some 1, some 2] _ rfl
 have hsn : ∀ x ∈ fl [[b0_8], B7_8, B10_8, [b5], [b3], M], x ∈ fl ([[b0_8], B7_8, B10_8] ++ ([] ++ [[b5], [b3], M])) := pick_sub [some 0, some 1, some 2, some 3, some 4, some 5] _ rfl
 replace hms : MS w8 [[b0_8], B7_8, B10_8, [b5], [b3], M] := (MS.call (P := []) (R := [[b5], [b3], M]) (res := [[b0_8], B7_8, B10_8]) (par := []) hpk2 he8 hmn8 hfn8 (NP.init _ _)).pick [some 0, some 1, some 2, some 3, some 4, some 5] _ rfl
 have hfr2 : FR w.heap.size [[b0_8], B7_8, B10_8, [b5], [b3]] := (FR.cons (fun b hb => Nat.le_trans hev.size (hfn8.at 0 rfl b hb)) (FR.cons (fun b hb => Nat.le_trans hev.size (hfn8.at 1 rfl b hb)) (FR.cons (fun b hb => Nat.le_trans hev.size (hfn8.at 2 rfl b hb)) (FR.cons (hfr.at 0 rfl) (FR.cons (hfr.at 1 rfl) (FR.nil _))))))
 replace hev := hev.ext he8
 replace hfr := hfr2
 clear hfr2
 have hsp : ∀ x ∈ fl [[b0_8], B7_8, B10_8, [b5], [b3], M], x ∈ fl ([[b0_8], B7_8, B10_8] ++ ([] ++ [(fl [[b5], [b3], M])])) := fun x hx => fl_tot (res := [[b0_8], B7_8, B10_8]) (par := []) (R := [[b5], [b3], M]) x (hsn x hx)
 replace hf8_2 := hf8_2.sub hsp
 replace hf8_3 := hf8_3.sub hsp
 clear hpk2 hsn hst
 refine x_u 1 [(7, Vp b0_8 0)] (x_ek (c_seq (c_sp (x_u 1 [(8, Vi 0)] (x_ek ?_)))))
 refine c_block ?_
 have hpk := hms.pick [some 1, some 2, some 0, some 5] [B7_8, B10_8, [b0_8], M] rfl
 have hsu := pick_sub (ls := [[b0_8], B7_8, B10_8, [b5], [b3], M]) [some 1, some 2, some 0, some 5] [B7_8, B10_8, [b0_8], M] rfl
 replace hf8_2 := hf8_2.sub hsu
 replace hf8_3 := hf8_3.sub hsu
 replace hms := hpk
 replace hfr := hfr.pick [some 1, some 2, some 0] [B7_8, B10_8, [b0_8]] rfl
 clear hpk hsu
 obtain ⟨d14, hd14, h14⟩ := bind_some h
 obtain ⟨m14, hd14⟩ := loop_some hd14
 refine c_loop (loop_rule hmx (σ := Nat × (List (List Int)) × (List (List Int)) × Int × Int × Int × Option Addr × Nat × List Nat × Option Addr × Nat × List Nat) (fun s => match s with | (_, d12_l14, d13_l14, e9_l14_6, e9_l14_7, v_t_s8_l14, a12_l14, c12_l14, B12_l14, a13_l14, c13_l14, B13_l14) => [(2, Vi p2), (7, Vp b0_8 0), (8, Vi v_t_s8_l14)]) (fun s w' => match s with | (m, d12_l14, d13_l14, e9_l14_6, e9_l14_7, v_t_s8_l14, a12_l14, c12_l14, B12_l14, a13_l14, c13_l14, B13_l14) => loopN (rollin_run_L14 p2 x7) m (d12_l14, d13_l14, e9_l14_6, e9_l14_7, v_t_s8_l14) = some d14 ∧ Ev [] w w' ∧ MS w' [B12_l14, B13_l14, [b0_8], M] ∧ FR w.heap.size [B12_l14, B13_l14, [b0_8]] ∧ SlR (eIt4) w' (fl [B12_l14, B13_l14, [b0_8], M]) a1_8 c1_8 x7.1.1 ∧ SlR (eInt .i64) w' (fl [B12_l14, B13_l14, [b0_8], M]) a3_8 c3_8 x7.2.1.2 ∧ OwnR (eInt .i64) 3 22 w' B12_l14 a12_l14 c12_l14 d12_l14 none ∧ OwnR (eInt .i64) 3 22 w' B13_l14 a13_l14 c13_l14 d13_l14 none ∧ w'.heap[b0_8]? = some (.cells #[Vl a1_8 x7.1.1 c1_8, Vi x7.1.2, Vi x7.2.1.1, Vl a3_8 x7.2.1.2 c3_8, Vl a12_l14 d12_l14 c12_l14, Vl a13_l14 d13_l14 c13_l14, Vi e9_l14_6, Vi e9_l14_7] 109 (0, 0))) (fun s => s.1) (m14, x7.2.2.1, x7.2.2.2.1, x7.2.2.2.2.1, x7.2.2.2.2.2, 0, a5_8, c5_8, B7_8, a8_8, c8_8, B10_8) ⟨rfl, rfl, rfl, trivial⟩ ⟨hd14, hev, hms, hfr, hf8_2, hf8_3, hf8_4, hf8_5, hf8_1⟩ ?_)
 rintro ⟨m14, d12_l14, d13_l14, e9_l14_6, e9_l14_7, v_t_s8_l14, a12_l14, c12_l14, B12_l14, a13_l14, c13_l14, B13_l14⟩ J wl14 ⟨hn14, hev, hms, hfr, hf8_2, hf8_3, hf8_4, hf8_5, hf8_1⟩
 rcases m14 with _ | m14
 · exact (loopN_zero hn14).elim
 obtain ⟨t14, h, hn14⟩ := bind_some hn14
 refine c_seq (c_sp (x_u 3 [(12, Vi v_t_s8_l14), (13, Vi p2), (14, .bool (decide (v_t_s8_l14 ≤ p2)))] (x_ek (c_nm [(2, Vi p2), (7, Vp b0_8 0), (8, Vi v_t_s8_l14), (14, .bool (decide (v_t_s8_l14 ≤ p2)))] (fun J => ?_)))))
 refine c_if (decide (v_t_s8_l14 ≤ p2)) rfl h (fun h => ?_) (fun h => ?_)
 · refine c_skip (k_then (c_seq (c_block (c_plain (x_u 2 [(17, Vp b0_8 0), (18, Vi v_t_s8_l14)] ?_)))))
   obtain ⟨x16, hx, h⟩ := bind_some h
   have hpk : MS wl14 ([[b0_8], B12_l14, B13_l14] ++ [M]) := hms.pick [some 2, some 0, some 1, some 3] _ rfl
   have hsb0 : ∀ x ∈ fl ([[b0_8], B12_l14, B13_l14] ++ [M]), x ∈ fl [B12_l14, B13_l14, [b0_8], M] := pick_sub [some 2, some 0, some 1, some 3] _ rfl
   have hsb : ∀ x ∈ fl ([[b0_8], B12_l14, B13_l14] ++ [(fl [M])]), x ∈ fl [B12_l14, B13_l14, [b0_8], M] := fun x hx => hsb0 x (fl_unfold x hx)
   have hcall := rollin_machine_at_w b0_8 a1_8 c1_8 x7.1.1 x7.1.2 x7.2.1.1 a3_8 c3_8 x7.2.1.2 a12_l14 c12_l14 B12_l14 d12_l14 a13_l14 c13_l14 B13_l14 d13_l14 e9_l14_6 e9_l14_7 v_t_s8_l14 _ wl14 (fl [M]) (hpk.fold (P := [[b0_8], B12_l14, B13_l14])) (hf8_2.sub hsb) (hf8_3.sub hsb) hf8_4 hf8_5 hf8_1 hx
   refine x_call 86 #[] #[] [Vp b0_8 0, Vi v_t_s8_l14] _ rfl rfl rfl rfl hcall ?_
   rintro v w17 ⟨a0_17, c0_17, B2_17, a3_17, c3_17, B5_17, rfl, he17, hp17_0, hp17_1, hp17_2, hmn17, hfn17, hnp17⟩
   clear hcall hx
   refine inl1 ?_
   have hpk2 : MS wl14 ([[b0_8], B12_l14, B13_l14] ++ [M]) := hms.pick [some 2, some 0, some 1, some 3] _ rfl
   have hsb2 : ∀ x ∈ fl ([[b0_8], B12_l14, B13_l14] ++ [M]), x ∈ fl [B12_l14, B13_l14, [b0_8], M] := pick_sub [some 2, some 0, some 1, some 3] _ rfl
   have hst0 := Stp.call (LS := [B12_l14, B13_l14, [b0_8], M]) (res := []) (par := [[b0_8], B2_17, B5_17]) (R := [M]) he17 (fun b hb => hsb2 b (fl_left' (P := [[b0_8], B12_l14, B13_l14]) b hb)) hfn17 hnp17 (fun x hx => hsb2 x (fl_right' (P := [[b0_8], B12_l14, B13_l14]) x hx))
   have hsn : ∀ x ∈ fl [B2_17, B5_17, [b0_8], M], x ∈ fl ([] ++ ([[b0_8], B2_17, B5_17] ++ [M])) := pick_sub [some 1, some 2, some 0, some 3] _ rfl
   have hst := hst0.res hsn
   replace hf8_2 := hf8_2.step hst
   replace hf8_3 := hf8_3.step hst
   replace hms : MS w17 [B2_17, B5_17, [b0_8], M] := (MS.call (P := [[b0_8], B12_l14, B13_l14]) (R := [M]) (res := []) (par := [[b0_8], B2_17, B5_17]) hpk2 he17 hmn17 hfn17 hnp17).pick [some 1, some 2, some 0, some 3] _ rfl
   have hPf : ∀ b ∈ fl [[b0_8], B12_l14, B13_l14], w.heap.size ≤ b := FR.mem (ls := [[b0_8], B12_l14, B13_l14]) (hfr.pick [some 2, some 0, some 1] _ rfl)
   have hfr2 : FR w.heap.size [B2_17, B5_17, [b0_8]] := (FR.cons (fun b hb => (hnp17.at 1 rfl b hb).elim (fun h => hPf b h) (fun h => Nat.le_trans hev.size h)) (FR.cons (fun b hb => (hnp17.at 2 rfl b hb).elim (fun h => hPf b h) (fun h => Nat.le_trans hev.size h)) (FR.cons (fun b hb => (hnp17.at 0 rfl b hb).elim (fun h => hPf b h) (fun h => Nat.le_trans hev.size h)) (FR.nil _))))
   replace hev := hev.then he17 (fun b hb => .inr (hPf b hb))
   replace hfr := hfr2
   clear hfr2
   replace hf8_1 := hp17_0
   replace hf8_4 := hp17_1
   replace hf8_5 := hp17_2
   clear hpk hsb hsb0 hpk2 hsb2 hst0 hsn hst
   refine x_end rfl (k_block (k_then (c_plain (x_u 3 [(15, Vi v_t_s8_l14), (16, Vi (IntKind.i64.wrap (v_t_s8_l14 + 1))), (8, Vi (IntKind.i64.wrap (v_t_s8_l14 + 1)))] (x_end rfl ?_)))))
   obtain rfl := some_inj h
   exact k_then ⟨(m14, x16.2.2.1, x16.2.2.2, x16.1, x16.2.1, IntKind.i64.wrap (v_t_s8_l14 + 1), a0_17, c0_17, B2_17, a3_17, c3_17, B5_17), ⟨rfl, rfl, rfl, trivial⟩, ⟨hn14, hev, hms, hfr, hf8_2, hf8_3, hf8_4, hf8_5, hf8_1⟩, Nat.lt_succ_self _⟩
 refine c_exit (k_then_exit ?_)
 obtain rfl := some_inj h
 have hy := some_inj hn14
 subst hy
 replace h := h14
 refine k_then_exit (k_block_in (k_then (c_nm [(7, Vp b0_8 0)] (fun J => ?_))))
 refine c_sp (x_u 2 [(20, Vp b0_8 0), (6, Vp b0_8 0)] (x_ek (c_ret (r_ret (r_vals [Vp b0_8 0] ⟨rfl, trivial⟩ ?_)))))
 obtain rfl := some_inj h
 have hmr := hms.pick [some 2, some 0, some 1, some 3] [[b0_8], B12_l14, B13_l14, M] rfl
 have hsu := pick_sub (ls := [B12_l14, B13_l14, [b0_8], M]) [some 2, some 0, some 1, some 3] [[b0_8], B12_l14, B13_l14, M] rfl
 have hfe := hfr.pick [some 2, some 0, some 1] [[b0_8], B12_l14, B13_l14] rfl
 exact ⟨b0_8, a1_8, c1_8, a3_8, c3_8, a12_l14, c12_l14, B12_l14, a13_l14, c13_l14, B13_l14, rfl, hev, hmr, hfe, hf8_1, hf8_2.sub hsu, hf8_3.sub hsu, hf8_4, hf8_5⟩
def rollin_Run (p0_0 : List (Int × Int × Int × Int)) (p0_1 : Int) (p1_0 : Int) (p1_1 : List Int) : Option (((List (List Int)) × Int) × Int) :=
((rollin_Valid p0_0 p0_1 p1_0 p1_1).bind fun x10 =>
(if (x10 != 0) = true then
some (([], 0), x10)
else
((rollin_run p0_0 p0_1 p1_0 p1_1 p1_0).bind fun x13 =>
some ((x13.2.2.2.1, x13.2.2.2.2.1), 0))))
theorem rollin_Run_w (a_p0_0 : Option Addr) (c_p0_0 : Nat) (p0_0 : List (Int × Int × Int × Int)) (p0_1 : Int) (p1_0 : Int) (a_p1_1 : Option Addr) (c_p1_1 : Nat) (p1_1 : List Int) (r : ((List (List Int)) × Int) × Int) (w : World) (M : List Nat) (hms : MS w [M]) (hs_p0_0 : SlR (eIt4) w (fl [M]) a_p0_0 c_p0_0 p0_0) (hs_p1_1 : SlR (eInt .i64) w (fl [M]) a_p1_1 c_p1_1 p1_1) (h : rollin_Run p0_0 p0_1 p1_0 p1_1 = some r) : CallVC Tryz.prog 22 [.agg #[Vl a_p0_0 p0_0 c_p0_0, Vi p0_1], .agg #[Vi p1_0, Vl a_p1_1 p1_1 c_p1_1]] w fun v w' => ∃ (a0' : Option Addr), ∃ (c0' : Nat), ∃ (B2' : List Nat), v = .tuple #[.agg #[Vl a0' r.1.1 c0', Vi r.1.2], Vi r.2] ∧ Ev [] w w' ∧ MS w' [B2', M] ∧ FR w.heap.size [B2'] ∧ OwnR (eInt .i64) 3 22 w' B2' a0' c0' r.1.1 none := by
 refine calls_vc hmx Tryz.func22 (by kernel_rfl) rfl (rs := [.cell 4 59, .tmp 5]) rfl (by kernel_rfl) (args := [.agg #[Vl a_p0_0 p0_0 c_p0_0, Vi p0_1], .agg #[Vi p1_0, Vl a_p1_1 p1_1 c_p1_1]]) rfl ?_
 have hev : Ev [] w w := Ev.refl _ _
 have hfr : FR w.heap.size [] := FR.nil _
 refine c_sp (x_box (xv := .agg #[Vl a_p0_0 p0_0 c_p0_0, Vi p0_1]) rfl rfl rfl (fun b3 w3 hq3 hb3 he3 hz3 => ?_))
 replace hb3 : w3.heap[b3]? = some (.cells #[Vl a_p0_0 p0_0 c_p0_0, Vi p0_1] 50 (0, 0)) := hb3
 refine inl1 ?_
 have hst := Stp.box (ls := [M]) he3 hq3
 replace hs_p0_0 := hs_p0_0.step hst
 replace hs_p1_1 := hs_p1_1.step hst
 replace hms := hms.box he3 hq3 hb3
 replace hfr := hfr.box hev.size hq3
 replace hev := hev.ext he3
 refine x_box (xv := .agg #[Vi p1_0, Vl a_p1_1 p1_1 c_p1_1]) rfl rfl rfl (fun b5 w5 hq5 hb5 he5 hz5 => ?_)
 replace hb5 : w5.heap[b5]? = some (.cells #[Vi p1_0, Vl a_p1_1 p1_1 c_p1_1] 52 (0, 0)) := hb5
 refine inl1 ?_
 have hst := Stp.box (ls := [[b3], M]) he5 hq5
 replace hs_p0_0 := hs_p0_0.step hst
 replace hs_p1_1 := hs_p1_1.step hst
 replace hb3 := he5.box hb3 nn
 replace hms := hms.box he5 hq5 hb5
 replace hfr := hfr.box hev.size hq5
 replace hev := hev.ext he5
 refine x_alloc (z := .agg #[.slice none 0 0, Vi 0]) rfl rfl (by kernel_rfl) (fun b7 w7 hq7 hb7 he7 hz7 => ?_)
 replace hb7 : w7.heap[b7]? = some (.cells #[.slice none 0 0, Vi 0] 59 (0, 0)) := hb7
 refine inl1 ?_
 have hst := Stp.box (ls := [[b5], [b3], M]) he7 hq7
 replace hs_p0_0 := hs_p0_0.step hst
 replace hs_p1_1 := hs_p1_1.step hst
 replace hb3 := he7.box hb3 nn
 replace hb5 := he7.box hb5 nn
 replace hms := hms.box he7 hq7 hb7
 replace hfr := hfr.box hev.size hq7
 replace hev := hev.ext he7
 refine x_u 1 [(5, Vi 0)] (x_ek (c_seq (c_sp (x_load (xv := Vp b3 0) (.agg #[Vl a_p0_0 p0_0 c_p0_0, Vi p0_1]) rfl rfl rfl (reads_boxagg 0 [Vl a_p0_0 p0_0 c_p0_0, Vi p0_1] tagg50 hb3 nn rfl) (x_load (xv := Vp b5 0) (.agg #[Vi p1_0, Vl a_p1_1 p1_1 c_p1_1]) rfl rfl rfl (reads_boxagg 0 [Vi p1_0, Vl a_p1_1 p1_1 c_p1_1] tagg52 hb5 nn rfl) ?_)))))
 obtain ⟨x10, hx, h⟩ := bind_some h
 have hcall := rollin_Valid_w a_p0_0 c_p0_0 p0_0 p0_1 p1_0 a_p1_1 c_p1_1 p1_1 _ w7 (fl [[b7], [b5], [b3], M]) (MS.fold (P := []) hms) (hs_p0_0.sub fl1) (hs_p1_1.sub fl1) hx
 refine x_call 53 #[] #[] [.agg #[Vl a_p0_0 p0_0 c_p0_0, Vi p0_1], .agg #[Vi p1_0, Vl a_p1_1 p1_1 c_p1_1]] _ rfl rfl rfl rfl hcall ?_
 rintro v w11 ⟨rfl, he11⟩
 clear hcall hx
 refine inl1 ?_
 have hst := Stp.ext (ls := [[b7], [b5], [b3], M]) he11
 replace hs_p0_0 := hs_p0_0.step hst
 replace hs_p1_1 := hs_p1_1.step hst
 replace hb3 := he11.box hb3 nn
 replace hb5 := he11.box hb5 nn
 replace hb7 := he11.box hb7 nn
 replace hms := hms.ev he11
 replace hev := hev.ext he11
 refine x_u 1 [(6, Vi x10)] (x_ek (c_sp (x_u 2 [(11, Vi x10), (12, .bool (x10 != 0))] (x_ek (c_if (x10 != 0) rfl h (fun h => ?_) (fun h => ?_))))))
 · refine c_sp (x_build (vs := []) (.agg #[.slice none 0 0, Vi 0]) rfl rfl rfl (fun _ _ => by kernel_rfl) ?_)
   refine x_u 1 [(14, Vi x10)] ?_
   obtain ⟨w12, hr12, hb12, he12⟩ := store_boxagg 0 [.slice none 0 0, Vi 0] #[.slice none 0 0, Vi 0] tagg59 hb7 rfl rfl rfl
   refine x_store w12 (xv := Vp b7 0) (yv := .agg #[.slice none 0 0, Vi 0]) rfl rfl rfl rfl hr12 (inl1 ?_)
   replace hms := hms.ev he12
   replace hev := hev.then he12 (fun b hb => .inr (hfr.at 0 rfl b hb))
   replace hb7 := hb12
   refine x_u 1 [(5, Vi x10)] (x_ek (c_nm [(4, Vp b7 0), (5, Vi x10)] (fun J => ?_)))
   refine c_ret (k_then_ret (r_ret (r_vals [.agg #[.slice none 0 0, Vi 0], Vi x10] ⟨⟨_, rfl, loadVar_of_reads (reads_boxagg (Mo := []) 0 [.slice none 0 0, Vi 0] tagg59 hb7 nn rfl)⟩, rfl, trivial⟩ ?_)))
   obtain rfl := some_inj h
   have hmr := hms.pick [none, some 3] [([] : List Nat), M] rfl
   have hfe := hfr.pick [none] [([] : List Nat)] rfl
   exact ⟨none, 0, ([] : List Nat), rfl, hev, hmr, hfe, OwnR.nil _ _ _ _ _⟩
 refine c_skip (k_then (c_sp (x_load (xv := Vp b3 0) (.agg #[Vl a_p0_0 p0_0 c_p0_0, Vi p0_1]) rfl rfl rfl (reads_boxagg 0 [Vl a_p0_0 p0_0 c_p0_0, Vi p0_1] tagg50 hb3 nn rfl) (x_load (xv := Vp b5 0) (.agg #[Vi p1_0, Vl a_p1_1 p1_1 c_p1_1]) rfl rfl rfl (reads_boxagg 0 [Vi p1_0, Vl a_p1_1 p1_1 c_p1_1] tagg52 hb5 nn rfl) (x_fieldAddr (xv := Vp b5 0) (Vp b5 0) rfl rfl rfl (reads_field tfld52_0 _ _) ?_)))))
 refine x_load (xv := Vp b5 0) (Vi p1_0) rfl rfl rfl (reads_box tcell3 hb5 nn 0 _ rfl) ?_
 obtain ⟨x13, hx, h⟩ := bind_some h
 have hcall := rollin_run_w a_p0_0 c_p0_0 p0_0 p0_1 p1_0 a_p1_1 c_p1_1 p1_1 p1_0 _ w11 (fl [[b7], [b5], [b3], M]) (MS.fold (P := []) hms) (hs_p0_0.sub fl1) (hs_p1_1.sub fl1) hx
 refine x_call 54 #[] #[] [.agg #[Vl a_p0_0 p0_0 c_p0_0, Vi p0_1], .agg #[Vi p1_0, Vl a_p1_1 p1_1 c_p1_1], Vi p1_0] _ rfl rfl rfl rfl hcall ?_
 rintro v w14 ⟨b0_14, a1_14, c1_14, a3_14, c3_14, a5_14, c5_14, B7_14, a8_14, c8_14, B10_14, rfl, he14, hmn14, hfn14, hf14_1, hf14_2, hf14_3, hf14_4, hf14_5⟩
 clear hcall hx
 refine inl1 ?_
 have hpk2 : MS w11 ([] ++ [[b7], [b5], [b3], M]) := hms.pick [some 0, some 1, some 2, some 3] _ rfl
 replace hb7 := he14.box hb7 ((MS.outs (P := []) hpk2 0 rfl) _ mem1)
 replace hms : MS w14 [[b0_14], B7_14, B10_14, [b7], [b5], [b3], M] := (MS.call (P := []) (R := [[b7], [b5], [b3], M]) (res := [[b0_14], B7_14, B10_14]) (par := []) hpk2 he14 hmn14 hfn14 (NP.init _ _)).pick [some 0, some 1, some 2, some 3, some 4, some 5, some 6] _ rfl
 have hfr2 : FR w.heap.size [[b0_14], B7_14, B10_14, [b7], [b5], [b3]] := (FR.cons (fun b hb => Nat.le_trans hev.size (hfn14.at 0 rfl b hb)) (FR.cons (fun b hb => Nat.le_trans hev.size (hfn14.at 1 rfl b hb)) (FR.cons (fun b hb => Nat.le_trans hev.size (hfn14.at 2 rfl b hb)) (FR.cons (hfr.at 0 rfl) (FR.cons (hfr.at 1 rfl) (FR.cons (hfr.at 2 rfl) (FR.nil _)))))))
 replace hev := hev.ext he14
 replace hfr := hfr2
 clear hfr2
 clear hpk2 hst
 refine x_u 1 [(7, Vp b0_14 0)] (x_ek (c_nm [(4, Vp b7 0), (7, Vp b0_14 0)] (fun J => ?_)))
 refine c_seq (c_drawn [] [(0, false), (1, false), (2, false), (3, false), (4, false), (5, false), (6, false), (7, false), (8, false), (9, true), (10, false)] _ (by kernel_rfl) rfl ?_)
 replace hb7 := (Ev.drew w14).box hb7 nn
 replace hf14_1 := (Ev.drew w14).box hf14_1 nn
 replace hf14_5 := hf14_5.step (plain_int _) (Ev.drew w14) nn2
 replace hms := hms.ev (Ev.drew w14)
 replace hev := hev.ext (Ev.drew w14)
 refine x_u 2 [(20, Vp b0_14 0), (21, Vp b0_14 0)] (x_fieldAddr (xv := Vp b0_14 0) (Vp b0_14 5) rfl rfl rfl (reads_field tfld109_3 _ _) (x_load (xv := Vp b0_14 5) (Vl a8_14 x13.2.2.2.1 c8_14) rfl rfl rfl (reads_box tcell57 hf14_1 nn 5 _ rfl) (x_u 2 [(24, Vp b0_14 0), (25, Vp b0_14 0)] (x_fieldAddr (xv := Vp b0_14 0) (Vp b0_14 6) rfl rfl rfl (reads_field tfld109_4 _ _) (x_load (xv := Vp b0_14 6) (Vi x13.2.2.2.2.1) rfl rfl rfl (reads_box tcell3 hf14_1 nn 6 _ rfl) ?_)))))
 refine x_build (vs := [(0, Vl a8_14 x13.2.2.2.1 c8_14), (1, Vi x13.2.2.2.2.1)]) (.agg #[Vl a8_14 x13.2.2.2.1 c8_14, Vi x13.2.2.2.2.1]) rfl rfl rfl (fun _ _ => by kernel_rfl) ?_
 obtain ⟨w20, hr20, hb20, he20⟩ := store_boxagg 0 [Vl a8_14 x13.2.2.2.1 c8_14, Vi x13.2.2.2.2.1] #[Vl a8_14 x13.2.2.2.1 c8_14, Vi x13.2.2.2.2.1] tagg59 hb7 rfl rfl rfl
 refine x_store w20 (xv := Vp b7 0) (yv := .agg #[Vl a8_14 x13.2.2.2.1 c8_14, Vi x13.2.2.2.2.1]) rfl rfl rfl rfl hr20 (inl1 ?_)
 replace hf14_5 := hf14_5.step (plain_int _) he20 (hms.apart 2 3 rfl rfl rfl)
 replace hms := hms.ev he20
 replace hev := hev.then he20 (fun b hb => .inr (hfr.at 3 rfl b hb))
 replace hb7 := hb20
 refine x_u 1 [(5, Vi 0)] (x_ek (c_ret (r_ret (r_vals [.agg #[Vl a8_14 x13.2.2.2.1 c8_14, Vi x13.2.2.2.2.1], Vi 0] ⟨⟨_, rfl, loadVar_of_reads (reads_boxagg (Mo := []) 0 [Vl a8_14 x13.2.2.2.1 c8_14, Vi x13.2.2.2.2.1] tagg59 hb7 nn rfl)⟩, rfl, trivial⟩ ?_))))
 obtain rfl := some_inj h
 have hmr := hms.pick [some 2, some 6] [B10_14, M] rfl
 have hfe := hfr.pick [some 2] [B10_14] rfl
 exact ⟨a8_14, c8_14, B10_14, rfl, hev, hmr, hfe, hf14_5⟩
def rollin_Pushes (p0_0 : List (Int × Int × Int × Int)) (p0_1 : Int) (p1_0 : Int) (p1_1 : List Int) : Option (Int × Int) :=
((rollin_Valid p0_0 p0_1 p1_0 p1_1).bind fun x8 =>
(if (x8 != 0) = true then
some (0, x8)
else
((rollin_run p0_0 p0_1 p1_0 p1_1 p1_0).bind fun x10 =>
some (x10.2.2.2.2.2, 0))))
theorem rollin_Pushes_w (a_p0_0 : Option Addr) (c_p0_0 : Nat) (p0_0 : List (Int × Int × Int × Int)) (p0_1 : Int) (p1_0 : Int) (a_p1_1 : Option Addr) (c_p1_1 : Nat) (p1_1 : List Int) (r : Int × Int) (w : World) (M : List Nat) (hms : MS w [M]) (hs_p0_0 : SlR (eIt4) w (fl [M]) a_p0_0 c_p0_0 p0_0) (hs_p1_1 : SlR (eInt .i64) w (fl [M]) a_p1_1 c_p1_1 p1_1) (h : rollin_Pushes p0_0 p0_1 p1_0 p1_1 = some r) : CallVC Tryz.prog 23 [.agg #[Vl a_p0_0 p0_0 c_p0_0, Vi p0_1], .agg #[Vi p1_0, Vl a_p1_1 p1_1 c_p1_1]] w fun v w' => v = .tuple #[Vi r.1, Vi r.2] ∧ Ev [] w w' := by
 refine calls_vc hmx Tryz.func23 (by kernel_rfl) rfl (rs := [.tmp 4, .tmp 5]) rfl (by kernel_rfl) (args := [.agg #[Vl a_p0_0 p0_0 c_p0_0, Vi p0_1], .agg #[Vi p1_0, Vl a_p1_1 p1_1 c_p1_1]]) rfl ?_
 have hev : Ev [] w w := Ev.refl _ _
 refine c_sp (x_box (xv := .agg #[Vl a_p0_0 p0_0 c_p0_0, Vi p0_1]) rfl rfl rfl (fun b3 w3 hq3 hb3 he3 hz3 => ?_))
 replace hb3 : w3.heap[b3]? = some (.cells #[Vl a_p0_0 p0_0 c_p0_0, Vi p0_1] 50 (0, 0)) := hb3
 refine inl1 ?_
 have hst := Stp.box (ls := [M]) he3 hq3
 replace hs_p0_0 := hs_p0_0.step hst
 replace hs_p1_1 := hs_p1_1.step hst
 replace hms := hms.box he3 hq3 hb3
 replace hev := hev.ext he3
 refine x_box (xv := .agg #[Vi p1_0, Vl a_p1_1 p1_1 c_p1_1]) rfl rfl rfl (fun b5 w5 hq5 hb5 he5 hz5 => ?_)
 replace hb5 : w5.heap[b5]? = some (.cells #[Vi p1_0, Vl a_p1_1 p1_1 c_p1_1] 52 (0, 0)) := hb5
 refine inl1 ?_
 have hst := Stp.box (ls := [[b3], M]) he5 hq5
 replace hs_p0_0 := hs_p0_0.step hst
 replace hs_p1_1 := hs_p1_1.step hst
 replace hb3 := he5.box hb3 nn
 replace hms := hms.box he5 hq5 hb5
 replace hev := hev.ext he5
 refine x_u 2 [(4, Vi 0), (5, Vi 0)] (x_ek (c_seq (c_sp (x_load (xv := Vp b3 0) (.agg #[Vl a_p0_0 p0_0 c_p0_0, Vi p0_1]) rfl rfl rfl (reads_boxagg 0 [Vl a_p0_0 p0_0 c_p0_0, Vi p0_1] tagg50 hb3 nn rfl) (x_load (xv := Vp b5 0) (.agg #[Vi p1_0, Vl a_p1_1 p1_1 c_p1_1]) rfl rfl rfl (reads_boxagg 0 [Vi p1_0, Vl a_p1_1 p1_1 c_p1_1] tagg52 hb5 nn rfl) ?_)))))
 obtain ⟨x8, hx, h⟩ := bind_some h
 have hcall := rollin_Valid_w a_p0_0 c_p0_0 p0_0 p0_1 p1_0 a_p1_1 c_p1_1 p1_1 _ w5 (fl [[b5], [b3], M]) (MS.fold (P := []) hms) (hs_p0_0.sub fl1) (hs_p1_1.sub fl1) hx
 refine x_call 53 #[] #[] [.agg #[Vl a_p0_0 p0_0 c_p0_0, Vi p0_1], .agg #[Vi p1_0, Vl a_p1_1 p1_1 c_p1_1]] _ rfl rfl rfl rfl hcall ?_
 rintro v w9 ⟨rfl, he9⟩
 clear hcall hx
 refine inl1 ?_
 have hst := Stp.ext (ls := [[b5], [b3], M]) he9
 replace hs_p0_0 := hs_p0_0.step hst
 replace hs_p1_1 := hs_p1_1.step hst
 replace hb3 := he9.box hb3 nn
 replace hb5 := he9.box hb5 nn
 replace hms := hms.ev he9
 replace hev := hev.ext he9
 refine x_u 1 [(6, Vi x8)] (x_ek (c_sp (x_u 2 [(10, Vi x8), (11, .bool (x8 != 0))] (x_ek (c_if (x8 != 0) rfl h (fun h => ?_) (fun h => ?_))))))
 · refine c_sp (x_u 3 [(12, Vi x8), (4, Vi 0), (5, Vi x8)] (x_ek (c_nm [(4, Vi 0), (5, Vi x8)] (fun J => ?_))))
   refine c_ret (k_then_ret (r_ret (r_vals [Vi 0, Vi x8] ⟨rfl, rfl, trivial⟩ ?_)))
   obtain rfl := some_inj h
   exact ⟨rfl, hev⟩
 refine c_skip (k_then (c_sp (x_load (xv := Vp b3 0) (.agg #[Vl a_p0_0 p0_0 c_p0_0, Vi p0_1]) rfl rfl rfl (reads_boxagg 0 [Vl a_p0_0 p0_0 c_p0_0, Vi p0_1] tagg50 hb3 nn rfl) (x_load (xv := Vp b5 0) (.agg #[Vi p1_0, Vl a_p1_1 p1_1 c_p1_1]) rfl rfl rfl (reads_boxagg 0 [Vi p1_0, Vl a_p1_1 p1_1 c_p1_1] tagg52 hb5 nn rfl) (x_fieldAddr (xv := Vp b5 0) (Vp b5 0) rfl rfl rfl (reads_field tfld52_0 _ _) ?_)))))
 refine x_load (xv := Vp b5 0) (Vi p1_0) rfl rfl rfl (reads_box tcell3 hb5 nn 0 _ rfl) ?_
 obtain ⟨x10, hx, h⟩ := bind_some h
 have hcall := rollin_run_w a_p0_0 c_p0_0 p0_0 p0_1 p1_0 a_p1_1 c_p1_1 p1_1 p1_0 _ w9 (fl [[b5], [b3], M]) (MS.fold (P := []) hms) (hs_p0_0.sub fl1) (hs_p1_1.sub fl1) hx
 refine x_call 54 #[] #[] [.agg #[Vl a_p0_0 p0_0 c_p0_0, Vi p0_1], .agg #[Vi p1_0, Vl a_p1_1 p1_1 c_p1_1], Vi p1_0] _ rfl rfl rfl rfl hcall ?_
 rintro v w11 ⟨b0_11, a1_11, c1_11, a3_11, c3_11, a5_11, c5_11, B7_11, a8_11, c8_11, B10_11, rfl, he11, hmn11, hfn11, hf11_1, hf11_2, hf11_3, hf11_4, hf11_5⟩
 clear hcall hx
 refine inl1 ?_
 replace hev := hev.ext he11
 clear hst
 refine x_u 1 [(18, Vp b0_11 0)] (x_fieldAddr (xv := Vp b0_11 0) (Vp b0_11 7) rfl rfl rfl (reads_field tfld109_5 _ _) (x_load (xv := Vp b0_11 7) (Vi x10.2.2.2.2.2) rfl rfl rfl (reads_box tcell3 hf11_1 nn 7 _ rfl) (x_u 2 [(4, Vi x10.2.2.2.2.2), (5, Vi 0)] (x_ek (c_nm [(4, Vi x10.2.2.2.2.2), (5, Vi 0)] (fun J => ?_))))))
 refine c_ret (r_ret (r_vals [Vi x10.2.2.2.2.2, Vi 0] ⟨rfl, rfl, trivial⟩ ?_))
 obtain rfl := some_inj h
 exact ⟨rfl, hev⟩
def rollin_Loads_L27 (p1_0 : Int) (p1_1 : List Int) (t31__s31_l19 : Int) (x21 : Int × Int × Int × Int) (s : (List Int) × Int) : Option (Step ((List Int) × Int) (List Int)) :=
match s with
| (d18_l27, b_s10_l27) =>
(if (decide (b_s10_l27 < p1_0)) = true then
((idx p1_1 t31__s31_l19).bind fun x29 =>
(if 0 ≤ b_s10_l27 then
(if ((IntKind.i64.wrap ↑(BitVec.ofInt IntKind.i64.bits (Int.fdiv x29 (2 ^ (min (Int.toNat (b_s10_l27)) IntKind.i64.bits))) &&& BitVec.ofInt IntKind.i64.bits 1).toNat) == 1) = true then
((idx d18_l27 b_s10_l27).bind fun x31 =>
((idx d18_l27 b_s10_l27).bind fun x33 =>
some (.next ((d18_l27.set (Int.toNat b_s10_l27) (IntKind.i64.wrap (x31 + x21.2.2.2))), IntKind.i64.wrap (b_s10_l27 + 1)))))
else
some (.next (d18_l27, IntKind.i64.wrap (b_s10_l27 + 1))))
else none))
else
some (.done d18_l27))
def rollin_Loads_L19 (p0_0 : List (Int × Int × Int × Int)) (p1_0 : Int) (p1_1 : List Int) (s : (List Int) × Int) : Option (Step ((List Int) × Int) (List Int)) :=
match s with
| (d18_l19, t31__s31_l19) =>
(if (decide (t31__s31_l19 < ((p0_0).length : Int))) = true then
((idx p0_0 t31__s31_l19).bind fun x21 =>
((loop (rollin_Loads_L27 p1_0 p1_1 t31__s31_l19 x21) (d18_l19, x21.2.2.1)).bind fun d => match d with
| d18_x27 => ((idx d18_x27 (IntKind.i64.wrap (p1_0 + x21.1))).bind fun x36 =>
((idx d18_x27 (IntKind.i64.wrap (p1_0 + x21.1))).bind fun x38 =>
some (.next ((d18_x27.set (Int.toNat (IntKind.i64.wrap (p1_0 + x21.1))) (IntKind.i64.wrap (x36 + x21.2.2.2))), IntKind.i64.wrap (t31__s31_l19 + 1)))))))
else
some (.done d18_l19))
def rollin_Loads (p0_0 : List (Int × Int × Int × Int)) (p0_1 : Int) (p1_0 : Int) (p1_1 : List Int) : Option ((List Int) × Int) :=
((rollin_Valid p0_0 p0_1 p1_0 p1_1).bind fun x8 =>
(if (x8 != 0) = true then
some ([], x8)
else
((rollin_start p0_0 p0_1 p1_0 p1_1).bind fun x10 =>
(if (0 : Int) ≤ IntKind.i64.wrap (p1_0 + ((x10.2.2.2.1).length : Int)) ∧ (IntKind.i64.wrap (p1_0 + ((x10.2.2.2.1).length : Int)) : Int) ≤ 4294967296 then
((loop (rollin_Loads_L19 p0_0 p1_0 p1_1) ((List.replicate (Int.toNat (IntKind.i64.wrap (p1_0 + ((x10.2.2.2.1).length : Int)))) 0 : List Int), 0)).bind fun d => match d with
| d18_x19 => some (d18_x19, 0))
else none))))
theorem rollin_Loads_w (a_p0_0 : Option Addr) (c_p0_0 : Nat) (p0_0 : List (Int × Int × Int × Int)) (p0_1 : Int) (p1_0 : Int) (a_p1_1 : Option Addr) (c_p1_1 : Nat) (p1_1 : List Int) (r : (List Int) × Int) (w : World) (M : List Nat) (hms : MS w [M]) (hs_p0_0 : SlR (eIt4) w (fl [M]) a_p0_0 c_p0_0 p0_0) (hs_p1_1 : SlR (eInt .i64) w (fl [M]) a_p1_1 c_p1_1 p1_1) (h : rollin_Loads p0_0 p0_1 p1_0 p1_1 = some r) : CallVC Tryz.prog 39 [.agg #[.slice a_p0_0 (p0_0).length c_p0_0, Vi p0_1], .agg #[Vi p1_0, .slice a_p1_1 (p1_1).length c_p1_1]] w fun v w' => ∃ (a0' : Option Addr), ∃ (c0' : Nat), v = .tuple #[.slice a0' (r.1).length c0', Vi r.2] ∧ Ev [] w w' ∧ MS w' [blk a0', M] ∧ FR w.heap.size [blk a0'] ∧ OwnS (eInt .i64) 3 w' (fl [blk a0', M]) a0' c0' r.1 := by
 refine calls_vc hmx Tryz.func39 (by kernel_rfl) rfl (rs := [.tmp 4, .tmp 5]) rfl (by kernel_rfl) (args := [.agg #[.slice a_p0_0 (p0_0).length c_p0_0, Vi p0_1], .agg #[Vi p1_0, .slice a_p1_1 (p1_1).length c_p1_1]]) rfl ?_
 have hev : Ev [] w w := Ev.refl _ _
 have hfr : FR w.heap.size [] := FR.nil _
 refine c_sp (x_box (xv := .agg #[.slice a_p0_0 (p0_0).length c_p0_0, Vi p0_1]) rfl rfl rfl (fun b3 w3 hq3 hb3 he3 hz3 => ?_))
 replace hb3 : w3.heap[b3]? = some (.cells #[.slice a_p0_0 (p0_0).length c_p0_0, Vi p0_1] 50 (0, 0)) := hb3
 refine inl1 ?_
 have hst := Stp.box (ls := [M]) he3 hq3
 replace hs_p0_0 := hs_p0_0.step hst
 replace hs_p1_1 := hs_p1_1.step hst
 replace hms := hms.box he3 hq3 hb3
 replace hfr := hfr.box hev.size hq3
 replace hev := hev.ext he3
 refine x_box (xv := .agg #[Vi p1_0, .slice a_p1_1 (p1_1).length c_p1_1]) rfl rfl rfl (fun b5 w5 hq5 hb5 he5 hz5 => ?_)
 replace hb5 : w5.heap[b5]? = some (.cells #[Vi p1_0, .slice a_p1_1 (p1_1).length c_p1_1] 52 (0, 0)) := hb5
 refine inl1 ?_
 have hst := Stp.box (ls := [[b3], M]) he5 hq5
 replace hs_p0_0 := hs_p0_0.step hst
 replace hs_p1_1 := hs_p1_1.step hst
 replace hb3 := he5.box hb3 nn
 replace hms := hms.box he5 hq5 hb5
 replace hfr := hfr.box hev.size hq5
 replace hev := hev.ext he5
 refine x_u 2 [(4, .slice none 0 0), (5, Vi 0)] (x_ek (c_seq (c_sp (x_load (xv := Vp b3 0) (.agg #[.slice a_p0_0 (p0_0).length c_p0_0, Vi p0_1]) rfl rfl rfl (reads_boxagg 0 [.slice a_p0_0 (p0_0).length c_p0_0, Vi p0_1] tagg50 hb3 nn rfl) (x_load (xv := Vp b5 0) (.agg #[Vi p1_0, .slice a_p1_1 (p1_1).length c_p1_1]) rfl rfl rfl (reads_boxagg 0 [Vi p1_0, .slice a_p1_1 (p1_1).length c_p1_1] tagg52 hb5 nn rfl) ?_)))))
 obtain ⟨x8, hx, h⟩ := bind_some h
 have hcall := rollin_Valid_w a_p0_0 c_p0_0 p0_0 p0_1 p1_0 a_p1_1 c_p1_1 p1_1 _ w5 (fl [[b5], [b3], M]) (MS.fold (P := []) hms) (hs_p0_0.sub fl1) (hs_p1_1.sub fl1) hx
 refine x_call 53 #[] #[] [.agg #[.slice a_p0_0 (p0_0).length c_p0_0, Vi p0_1], .agg #[Vi p1_0, .slice a_p1_1 (p1_1).length c_p1_1]] _ rfl rfl rfl rfl hcall ?_
 rintro v w9 ⟨rfl, he9⟩
 clear hcall hx
 refine inl1 ?_
 have hst := Stp.ext (ls := [[b5], [b3], M]) he9
 replace hs_p0_0 := hs_p0_0.step hst
 replace hs_p1_1 := hs_p1_1.step hst
 replace hb3 := he9.box hb3 nn
 replace hb5 := he9.box hb5 nn
 replace hms := hms.ev he9
 replace hev := hev.ext he9
 refine x_u 1 [(6, Vi x8)] (x_ek (c_sp (x_u 2 [(14, Vi x8), (15, .bool (x8 != 0))] (x_ek (c_if (x8 != 0) rfl h (fun h => ?_) (fun h => ?_))))))
 · refine c_sp (x_u 3 [(16, Vi x8), (4, .slice none 0 0), (5, Vi x8)] (x_ek (c_nm [(4, .slice none 0 0), (5, Vi x8)] (fun J => ?_))))
   refine c_ret (k_then_ret (r_ret (r_vals [.slice none 0 0, Vi x8] ⟨rfl, rfl, trivial⟩ ?_)))
   obtain rfl := some_inj h
   have hmr := hms.pick [none, some 2] [blk none, M] rfl
   have hfe := hfr.pick [none] [blk none] rfl
   exact ⟨none, 0, rfl, hev, hmr, hfe, OwnS.nil _ _ _ _⟩
 refine c_skip (k_then (c_seq (c_drawn [] [(0, false), (1, false), (2, false), (3, false), (4, false), (5, false), (6, false), (7, false), (8, false), (9, false), (10, false), (11, false)] _ (by kernel_rfl) rfl ?_)))
 have hst := Stp.ext (ls := [[b5], [b3], M]) (Ev.drew w9)
 replace hs_p0_0 := hs_p0_0.step hst
 replace hs_p1_1 := hs_p1_1.step hst
 replace hb3 := (Ev.drew w9).box hb3 nn
 replace hb5 := (Ev.drew w9).box hb5 nn
 replace hms := hms.ev (Ev.drew w9)
 replace hev := hev.ext (Ev.drew w9)
 refine x_fieldAddr (xv := Vp b5 0) (Vp b5 0) rfl rfl rfl (reads_field tfld52_0 _ _) (x_load (xv := Vp b5 0) (Vi p1_0) rfl rfl rfl (reads_box tcell3 hb5 nn 0 _ rfl) (x_load (xv := Vp b3 0) (.agg #[.slice a_p0_0 (p0_0).length c_p0_0, Vi p0_1]) rfl rfl rfl (reads_boxagg 0 [.slice a_p0_0 (p0_0).length c_p0_0, Vi p0_1] tagg50 hb3 nn rfl) (x_load (xv := Vp b5 0) (.agg #[Vi p1_0, .slice a_p1_1 (p1_1).length c_p1_1]) rfl rfl rfl (reads_boxagg 0 [Vi p1_0, .slice a_p1_1 (p1_1).length c_p1_1] tagg52 hb5 nn rfl) ?_)))
 obtain ⟨x10, hx, h⟩ := bind_some h
 have hpk : MS (w9).drew ([] ++ [[b5], [b3], M]) := hms.pick [some 0, some 1, some 2] _ rfl
 have hsb0 : ∀ x ∈ fl ([] ++ [[b5], [b3], M]), x ∈ fl [[b5], [b3], M] := pick_sub [some 0, some 1, some 2] _ rfl
 have hsb : ∀ x ∈ fl ([] ++ [(fl [[b5], [b3], M])]), x ∈ fl [[b5], [b3], M] := fun x hx => hsb0 x (fl_unfold x hx)
 have hcall := rollin_start_w a_p0_0 c_p0_0 p0_0 p0_1 p1_0 a_p1_1 c_p1_1 p1_1 _ (w9).drew (fl [[b5], [b3], M]) (MS.fold (P := []) hpk) (hs_p0_0.sub hsb) (hs_p1_1.sub hsb) hx
 refine x_call 70 #[] #[] [.agg #[.slice a_p0_0 (p0_0).length c_p0_0, Vi p0_1], .agg #[Vi p1_0, .slice a_p1_1 (p1_1).length c_p1_1]] _ rfl rfl rfl rfl hcall ?_
 rintro v w11 ⟨b0_11, a1_11, c1_11, a3_11, c3_11, a5_11, c5_11, B7_11, a8_11, c8_11, B10_11, rfl, he11, hmn11, hfn11, hf11_1, hf11_2, hf11_3, hf11_4, hf11_5⟩
 clear hcall hx
 refine ⟨.inr he11, ?_⟩
 have hpk2 : MS (w9).drew ([] ++ [[b5], [b3], M]) := hms.pick [some 0, some 1, some 2] _ rfl
 have hsb2 : ∀ x ∈ fl ([] ++ [[b5], [b3], M]), x ∈ fl [[b5], [b3], M] := pick_sub [some 0, some 1, some 2] _ rfl
 have hst0 := Stp.call (LS := [[b5], [b3], M]) (res := [[b0_11], B7_11, B10_11]) (par := []) (R := [[b5], [b3], M]) he11 (fun b hb => hsb2 b (fl_left' (P := []) b hb)) hfn11 (NP.init _ _) (fun x hx => hsb2 x (fl_right' (P := []) x hx))
 have hsn : ∀ x ∈ fl [[b0_11], B7_11, B10_11, [b5], [b3], M], x ∈ fl ([[b0_11], B7_11, B10_11] ++ ([] ++ [[b5], [b3], M])) := pick_sub [some 0, some 1, some 2, some 3, some 4, some 5] _ rfl
 have hst := hst0.res hsn
 replace hs_p0_0 := hs_p0_0.step hst
 replace hs_p1_1 := hs_p1_1.step hst
 replace hb3 := he11.box hb3 ((MS.outs (P := []) hpk2 1 rfl) _ mem1)
 replace hb5 := he11.box hb5 ((MS.outs (P := []) hpk2 0 rfl) _ mem1)
 replace hms : MS w11 [[b0_11], B7_11, B10_11, [b5], [b3], M] := (MS.call (P := []) (R := [[b5], [b3], M]) (res := [[b0_11], B7_11, B10_11]) (par := []) hpk2 he11 hmn11 hfn11 (NP.init _ _)).pick [some 0, some 1, some 2, some 3, some 4, some 5] _ rfl
 have hfr2 : FR w.heap.size [[b0_11], B7_11, B10_11, [b5], [b3]] := (FR.cons (fun b hb => Nat.le_trans hev.size (hfn11.at 0 rfl b hb)) (FR.cons (fun b hb => Nat.le_trans hev.size (hfn11.at 1 rfl b hb)) (FR.cons (fun b hb => Nat.le_trans hev.size (hfn11.at 2 rfl b hb)) (FR.cons (hfr.at 0 rfl) (FR.cons (hfr.at 1 rfl) (FR.nil _))))))
 replace hev := hev.ext he11
 replace hfr := hfr2
 clear hfr2
 clear hpk hsb hsb0 hpk2 hsb2 hst0 hsn hst
 refine x_u 1 [(22, Vp b0_11 0)] (x_fieldAddr (xv := Vp b0_11 0) (Vp b0_11 5) rfl rfl rfl (reads_field tfld109_3 _ _) (x_load (xv := Vp b0_11 5) (.slice a8_11 (x10.2.2.2.1).length c8_11) rfl rfl rfl (reads_box tcell57 hf11_1 nn 5 _ rfl) (x_len (vs := [.slice a8_11 (x10.2.2.2.1).length c8_11]) (Vi ((x10.2.2.2.1).length : Int)) rfl rfl rfl (reads_len tsl57 _ _ _ _ _) (x_u 1 [(26, Vi (IntKind.i64.wrap (p1_0 + ((x10.2.2.2.1).length : Int))))] ?_))))
 have hg := guard_l h
 replace h := guard_r h
 obtain ⟨a17, c17, w17, hr17, he17, hn17, hw17⟩ := own_make (e := (eInt .i64)) tel22 w11 (IntKind.i64.wrap (p1_0 + ((x10.2.2.2.1).length : Int))) hg.1 hg.2 0 (fun _ _ => rfl)
 refine x_makeSlice _ w17 (xv := Vi (IntKind.i64.wrap (p1_0 + ((x10.2.2.2.1).length : Int)))) (yv := Vi (IntKind.i64.wrap (p1_0 + ((x10.2.2.2.1).length : Int)))) rfl rfl rfl rfl hr17 (⟨.inr he17, ?_⟩)
 have hst := Stp.push (ls := [[b0_11], B7_11, B10_11, [b5], [b3], M]) (l := blk a17) he17 (fun _ h => by cases h) (fun b hb => (hn17 b hb).1)
 replace hs_p0_0 := hs_p0_0.step hst
 replace hs_p1_1 := hs_p1_1.step hst
 replace hb3 := he17.box hb3 nn
 replace hb5 := he17.box hb5 nn
 replace hms := hms.push he17 hn17
 replace hfr := hfr.push (fun b hb => Nat.le_trans hev.size (hn17 b hb).1)
 replace hev := hev.ext he17
 have ho17 := hw17 (fl [blk a17, [b0_11], B7_11, B10_11, [b5], [b3], M])
 clear hw17
 refine x_u 1 [(7, .slice a17 ((List.replicate (Int.toNat (IntKind.i64.wrap (p1_0 + ((x10.2.2.2.1).length : Int)))) 0 : List Int)).length c17)] (x_ek (c_nm [(2, Vp b3 0), (3, Vp b5 0), (7, .slice a17 ((List.replicate (Int.toNat (IntKind.i64.wrap (p1_0 + ((x10.2.2.2.1).length : Int)))) 0 : List Int)).length c17)] (fun J => ?_)))
 refine c_seq (c_sp (x_fieldAddr (xv := Vp b3 0) (Vp b3 0) rfl rfl rfl (reads_field tfld50_0 _ _) (x_load (xv := Vp b3 0) (.slice a_p0_0 (p0_0).length c_p0_0) rfl rfl rfl (reads_box tcell36 hb3 nn 0 _ rfl) (x_len (vs := [.slice a_p0_0 (p0_0).length c_p0_0]) (Vi ((p0_0).length : Int)) rfl rfl rfl (reads_len tsl36 _ _ _ _ _) (x_u 1 [(31, Vi 0)] ?_)))))
 refine x_ek (c_block ?_)
 have hpk := hms.pick [some 4, some 0, some 6] [[b5], blk a17, M] rfl
 have hsu := pick_sub (ls := [blk a17, [b0_11], B7_11, B10_11, [b5], [b3], M]) [some 4, some 0, some 6] [[b5], blk a17, M] rfl
 replace hs_p1_1 := hs_p1_1.sub hsu
 replace ho17 := ho17.sub hsu
 replace hs_p0_0 := hs_p0_0.sub hsu
 replace hms := hpk
 replace hfr := hfr.pick [some 4, some 0] [[b5], blk a17] rfl
 clear hpk hsu
 obtain ⟨d19, hd19, h19⟩ := bind_some h
 obtain ⟨m19, hd19⟩ := loop_some hd19
 refine c_loop (loop_rule hmx (σ := Nat × (List Int) × Int) (fun s => match s with | (_, d18_l19, t31__s31_l19) => [(3, Vp b5 0), (7, .slice a17 (d18_l19).length c17), (29, .slice a_p0_0 (p0_0).length c_p0_0), (30, Vi ((p0_0).length : Int)), (31, Vi t31__s31_l19)]) (fun s w' => match s with | (m, d18_l19, t31__s31_l19) => loopN (rollin_Loads_L19 p0_0 p1_0 p1_1) m (d18_l19, t31__s31_l19) = some d19 ∧ Ev [] w w' ∧ MS w' [[b5], blk a17, M] ∧ FR w.heap.size [[b5], blk a17] ∧ SlR (eInt .i64) w' (fl [[b5], blk a17, M]) a_p1_1 c_p1_1 p1_1 ∧ w'.heap[b5]? = some (.cells #[Vi p1_0, .slice a_p1_1 (p1_1).length c_p1_1] 52 (0, 0)) ∧ OwnS (eInt .i64) 3 w' (fl [[b5], blk a17, M]) a17 c17 d18_l19 ∧ SlR (eIt4) w' (fl [[b5], blk a17, M]) a_p0_0 c_p0_0 p0_0) (fun s => s.1) (m19, (List.replicate (Int.toNat (IntKind.i64.wrap (p1_0 + ((x10.2.2.2.1).length : Int)))) 0 : List Int), 0) ⟨rfl, rfl, rfl, rfl, rfl, trivial⟩ ⟨hd19, hev, hms, hfr, hs_p1_1, hb5, ho17, hs_p0_0⟩ ?_)
 rintro ⟨m19, d18_l19, t31__s31_l19⟩ J wl19 ⟨hn19, hev, hms, hfr, hs_p1_1, hb5, ho17, hs_p0_0⟩
 rcases m19 with _ | m19
 · exact (loopN_zero hn19).elim
 obtain ⟨t19, h, hn19⟩ := bind_some hn19
 refine c_sp (x_u 1 [(32, .bool (decide (t31__s31_l19 < ((p0_0).length : Int))))] (x_ek (c_nm [(3, Vp b5 0), (7, .slice a17 (d18_l19).length c17), (29, .slice a_p0_0 (p0_0).length c_p0_0), (30, Vi ((p0_0).length : Int)), (31, Vi t31__s31_l19), (32, .bool (decide (t31__s31_l19 < ((p0_0).length : Int))))] (fun J => ?_))))
 refine c_seq (c_if (decide (t31__s31_l19 < ((p0_0).length : Int))) rfl h (fun h => ?_) (fun h => ?_))
 · refine c_skip (k_then (c_seq (c_block (c_sp (x_u 1 [(33, Vi t31__s31_l19)] ?_)))))
   obtain ⟨x21, hx21, h⟩ := bind_some h
   obtain ⟨ad21, cs21, hr21, hc21, hR⟩ := reads_index (Mo := []) tsl36 hs_p0_0 hx21
   obtain ⟨_, _, rfl, rfl, ⟨_, _, rfl, rfl, ⟨_, _, rfl, rfl, rfl⟩⟩⟩ := hR
   refine x_indexAddr (xv := .slice a_p0_0 (p0_0).length c_p0_0) (yv := Vi t31__s31_l19) (.pointer (some ad21)) rfl rfl rfl rfl hr21 (x_load (xv := .pointer (some ad21)) (.agg #[Vi x21.1, Vi x21.2.1, Vi x21.2.2.1, Vi x21.2.2.2]) rfl rfl rfl (reads_agg tagg76 hc21 (fun _ h => by cases h)) ?_)
   refine x_alloc (z := .agg #[Vi 0, Vi 0, Vi 0, Vi 0]) rfl rfl (by kernel_rfl) (fun b23 w23 hq23 hb23 he23 hz23 => ?_)
   replace hb23 : w23.heap[b23]? = some (.cells #[Vi 0, Vi 0, Vi 0, Vi 0] 76 (0, 0)) := hb23
   refine inl1 ?_
   have hst := Stp.box (ls := [[b5], blk a17, M]) he23 hq23
   replace hb5 := he23.box hb5 nn
   replace hs_p1_1 := hs_p1_1.step hst
   replace ho17 := ho17.step hst he23 nn2
   replace hs_p0_0 := hs_p0_0.step hst
   replace hms := hms.box he23 hq23 hb23
   replace hfr := hfr.box hev.size hq23
   replace hev := hev.ext he23
   refine x_u 1 [(8, Vi t31__s31_l19)] ?_
   obtain ⟨w25, hr25, hb25, he25⟩ := store_boxagg 0 [Vi x21.1, Vi x21.2.1, Vi x21.2.2.1, Vi x21.2.2.2] #[Vi x21.1, Vi x21.2.1, Vi x21.2.2.1, Vi x21.2.2.2] tagg76 hb23 rfl rfl rfl
   refine x_store w25 (xv := Vp b23 0) (yv := .agg #[Vi x21.1, Vi x21.2.1, Vi x21.2.2.1, Vi x21.2.2.2]) rfl rfl rfl rfl hr25 (inl1 ?_)
   have hst := Stp.ev' (ls := [[b23], [b5], blk a17, M]) he25 (mem_flat 0 rfl)
   replace hb5 := he25.box hb5 (hms.apart 1 0 rfl rfl rfl _ mem1)
   replace hs_p1_1 := hs_p1_1.step hst
   replace ho17 := ho17.step hst he25 (hms.apart 2 0 rfl rfl rfl)
   replace hs_p0_0 := hs_p0_0.step hst
   replace hms := hms.ev he25
   replace hev := hev.then he25 (fun b hb => .inr (hfr.at 0 rfl b hb))
   replace hb23 := hb25
   refine x_ek (c_seq (c_sp (x_fieldAddr (xv := Vp b23 0) (Vp b23 2) rfl rfl rfl (reads_field tfld76_2 _ _) (x_load (xv := Vp b23 2) (Vi x21.2.2.1) rfl rfl rfl (reads_box tcell3 hb23 nn 2 _ rfl) (x_u 1 [(10, Vi x21.2.2.1)] ?_)))))
   refine x_ek (c_block ?_)
   have hpk := hms.pick [some 1, some 2, some 0, some 3] [[b5], blk a17, [b23], M] rfl
   have hsu := pick_sub (ls := [[b23], [b5], blk a17, M]) [some 1, some 2, some 0, some 3] [[b5], blk a17, [b23], M] rfl
   replace hs_p1_1 := hs_p1_1.sub hsu
   replace ho17 := ho17.sub hsu
   replace hs_p0_0 := hs_p0_0.sub hsu
   replace hms := hpk
   replace hfr := hfr.pick [some 1, some 2, some 0] [[b5], blk a17, [b23]] rfl
   clear hpk hsu
   obtain ⟨d27, hd27, h27⟩ := bind_some h
   obtain ⟨m27, hd27⟩ := loop_some hd27
   refine c_loop (loop_rule hmx (σ := Nat × (List Int) × Int) (fun s => match s with | (_, d18_l27, b_s10_l27) => [(3, Vp b5 0), (7, .slice a17 (d18_l27).length c17), (8, Vi t31__s31_l19), (9, Vp b23 0), (10, Vi b_s10_l27), (29, .slice a_p0_0 (p0_0).length c_p0_0), (30, Vi ((p0_0).length : Int)), (31, Vi t31__s31_l19)]) (fun s w' => match s with | (m, d18_l27, b_s10_l27) => loopN (rollin_Loads_L27 p1_0 p1_1 t31__s31_l19 x21) m (d18_l27, b_s10_l27) = some d27 ∧ Ev [] w w' ∧ MS w' [[b5], blk a17, [b23], M] ∧ FR w.heap.size [[b5], blk a17, [b23]] ∧ SlR (eInt .i64) w' (fl [[b5], blk a17, [b23], M]) a_p1_1 c_p1_1 p1_1 ∧ w'.heap[b5]? = some (.cells #[Vi p1_0, .slice a_p1_1 (p1_1).length c_p1_1] 52 (0, 0)) ∧ OwnS (eInt .i64) 3 w' (fl [[b5], blk a17, [b23], M]) a17 c17 d18_l27 ∧ w'.heap[b23]? = some (.cells #[Vi x21.1, Vi x21.2.1, Vi x21.2.2.1, Vi x21.2.2.2] 76 (0, 0)) ∧ SlR (eIt4) w' (fl [[b5], blk a17, [b23], M]) a_p0_0 c_p0_0 p0_0) (fun s => s.1) (m27, d18_l19, x21.2.2.1) ⟨rfl, rfl, rfl, rfl, rfl, rfl, rfl, rfl, trivial⟩ ⟨hd27, hev, hms, hfr, hs_p1_1, hb5, ho17, hb23, hs_p0_0⟩ ?_)
   rintro ⟨m27, d18_l27, b_s10_l27⟩ J wl27 ⟨hn27, hev, hms, hfr, hs_p1_1, hb5, ho17, hb23, hs_p0_0⟩
   rcases m27 with _ | m27
   · exact (loopN_zero hn27).elim
   obtain ⟨t27, h, hn27⟩ := bind_some hn27
   refine c_seq (c_sp (x_u 1 [(38, Vi b_s10_l27)] (x_fieldAddr (xv := Vp b5 0) (Vp b5 0) rfl rfl rfl (reads_field tfld52_0 _ _) (x_load (xv := Vp b5 0) (Vi p1_0) rfl rfl rfl (reads_box tcell3 hb5 nn 0 _ rfl) (x_u 1 [(41, .bool (decide (b_s10_l27 < p1_0)))] ?_)))))
   refine x_ek (c_nm [(3, Vp b5 0), (7, .slice a17 (d18_l27).length c17), (8, Vi t31__s31_l19), (9, Vp b23 0), (10, Vi b_s10_l27), (29, .slice a_p0_0 (p0_0).length c_p0_0), (30, Vi ((p0_0).length : Int)), (31, Vi t31__s31_l19), (41, .bool (decide (b_s10_l27 < p1_0)))] (fun J => ?_))
   refine c_if (decide (b_s10_l27 < p1_0)) rfl h (fun h => ?_) (fun h => ?_)
   · refine c_skip (k_then (c_seq (c_block (c_sp (x_fieldAddr (xv := Vp b5 0) (Vp b5 1) rfl rfl rfl (reads_field tfld52_1 _ _) ?_)))))
     refine x_load (xv := Vp b5 1) (.slice a_p1_1 (p1_1).length c_p1_1) rfl rfl rfl (reads_box tcell22 hb5 nn 1 _ rfl) (x_u 1 [(46, Vi t31__s31_l19)] ?_)
     obtain ⟨x29, hx29, h⟩ := bind_some h
     obtain ⟨ad29, cs29, hr29, hc29, hR⟩ := reads_index (Mo := []) tsl22 hs_p1_1 hx29
     obtain rfl := hR
     refine x_indexAddr (xv := .slice a_p1_1 (p1_1).length c_p1_1) (yv := Vi t31__s31_l19) (.pointer (some ad29)) rfl rfl rfl rfl hr29 (x_load (xv := .pointer (some ad29)) (Vi x29) rfl rfl rfl (reads_cell0 tcell3 hc29 (fun _ h => by cases h)) ?_)
     refine x_u 1 [(49, Vi b_s10_l27)] (x_binop (Vi (Int.fdiv x29 (2 ^ (min (Int.toNat (b_s10_l27)) IntKind.i64.bits)))) (Vi x29) (Vi b_s10_l27) rfl rfl rfl rfl (vb_shr (guard_l h)) ?_)
     replace h := guard_r h
     refine x_u 2 [(51, Vi (IntKind.i64.wrap ↑(BitVec.ofInt IntKind.i64.bits (Int.fdiv x29 (2 ^ (min (Int.toNat (b_s10_l27)) IntKind.i64.bits))) &&& BitVec.ofInt IntKind.i64.bits 1).toNat)), (52, .bool ((IntKind.i64.wrap ↑(BitVec.ofInt IntKind.i64.bits (Int.fdiv x29 (2 ^ (min (Int.toNat (b_s10_l27)) IntKind.i64.bits))) &&& BitVec.ofInt IntKind.i64.bits 1).toNat) == 1))] (x_ek (c_if ((IntKind.i64.wrap ↑(BitVec.ofInt IntKind.i64.bits (Int.fdiv x29 (2 ^ (min (Int.toNat (b_s10_l27)) IntKind.i64.bits))) &&& BitVec.ofInt IntKind.i64.bits 1).toNat) == 1) rfl h (fun h => ?_) (fun h => ?_)))
     · refine c_drawn [] [(0, false), (1, false), (2, false), (3, false), (4, false), (5, false), (6, false), (7, false), (8, true)] _ (by kernel_rfl) rfl ?_
       have hst := Stp.ext (ls := [[b5], blk a17, [b23], M]) (Ev.drew wl27)
       replace hb5 := (Ev.drew wl27).box hb5 nn
       replace hs_p1_1 := hs_p1_1.step hst
       replace ho17 := ho17.step hst (Ev.drew wl27) nn2
       replace hb23 := (Ev.drew wl27).box hb23 nn
       replace hs_p0_0 := hs_p0_0.step hst
       replace hms := hms.ev (Ev.drew wl27)
       replace hev := hev.ext (Ev.drew wl27)
       refine x_u 2 [(53, .slice a17 (d18_l27).length c17), (54, Vi b_s10_l27)] ?_
       obtain ⟨x31, hx31, h⟩ := bind_some h
       obtain ⟨g31, cs31, ha31, hr31, hc31, hR⟩ := own_index (Mo := []) tsl22 ho17 hx31
       obtain rfl := hR
       refine x_indexAddr (xv := .slice a17 (d18_l27).length c17) (yv := Vi b_s10_l27) (.pointer (some ⟨g31, (Int.toNat b_s10_l27) * (eInt .i64).n, none⟩)) rfl rfl rfl rfl hr31 (x_load (xv := .pointer (some ⟨g31, (Int.toNat b_s10_l27) * (eInt .i64).n, none⟩)) (Vi x31) rfl rfl rfl (reads_cell0 tcell3 hc31 (fun _ h => by cases h)) ?_)
       refine x_fieldAddr (xv := Vp b23 0) (Vp b23 3) rfl rfl rfl (reads_field tfld76_3 _ _) (x_load (xv := Vp b23 3) (Vi x21.2.2.2) rfl rfl rfl (reads_box tcell3 hb23 nn 3 _ rfl) (x_u 1 [(59, Vi (IntKind.i64.wrap (x31 + x21.2.2.2)))] ?_))
       obtain ⟨x33, hx33, h⟩ := bind_some h
       obtain ⟨g33, cs33, ha33, hr33, hc33, hR⟩ := own_index (Mo := []) tsl22 ho17 hx33
       obtain rfl := hR
       refine x_indexAddr (xv := .slice a17 (d18_l27).length c17) (yv := Vi b_s10_l27) (.pointer (some ⟨g33, (Int.toNat b_s10_l27) * (eInt .i64).n, none⟩)) rfl rfl rfl rfl hr33 ?_
       have hxs34_32 := hx31
       obtain ⟨w35, hr35, he35, ho35⟩ := own_storeE ha33 (y := IntKind.i64.wrap (x31 + x21.2.2.2)) 0 (Vi (IntKind.i64.wrap (x31 + x21.2.2.2))) tcell3 ho17 (mem_flat 1 rfl) hx33 rfl rfl (fun _ _ _ hR => set_int hR)
       refine x_store w35 (xv := .pointer (some ⟨g33, (Int.toNat b_s10_l27) * (eInt .i64).n, none⟩)) (yv := Vi (IntKind.i64.wrap (x31 + x21.2.2.2))) rfl rfl rfl rfl hr35 (inl1 ?_)
       have hst := Stp.ev' (ls := [[b5], blk a17, [b23], M]) he35 (mem_flat 1 rfl)
       replace hb5 := he35.box hb5 (hms.apart 0 1 rfl rfl rfl _ mem1)
       replace hs_p1_1 := hs_p1_1.step hst
       replace hb23 := he35.box hb23 (hms.apart 2 1 rfl rfl rfl _ mem1)
       replace hs_p0_0 := hs_p0_0.step hst
       replace hms := hms.ev he35
       replace hev := hev.then he35 (fun b hb => .inr (hfr.at 1 rfl b hb))
       replace ho17 := ho35
       have hsl : (Value.slice a17 (d18_l27).length c17) = (Value.slice a17 ((d18_l27.set (Int.toNat b_s10_l27) (IntKind.i64.wrap (x31 + x21.2.2.2)))).length c17) := by first | (rw [List.length_set]; done) | simp only [List.length_set]
       try rw [hsl]
       clear hsl
       obtain ⟨_, hxs34_32⟩ : ∃ y, idx (d18_l27.set (Int.toNat b_s10_l27) (IntKind.i64.wrap (x31 + x21.2.2.2))) b_s10_l27 = some y := idx_set_any hxs34_32 _ _
       refine x_end rfl (k_block (k_then (c_nm [(3, Vp b5 0), (7, .slice a17 ((d18_l27.set (Int.toNat b_s10_l27) (IntKind.i64.wrap (x31 + x21.2.2.2)))).length c17), (8, Vi t31__s31_l19), (9, Vp b23 0), (10, Vi b_s10_l27), (29, .slice a_p0_0 (p0_0).length c_p0_0), (30, Vi ((p0_0).length : Int)), (31, Vi t31__s31_l19)] (fun J => ?_))))
       refine c_plain (x_u 3 [(42, Vi b_s10_l27), (43, Vi (IntKind.i64.wrap (b_s10_l27 + 1))), (10, Vi (IntKind.i64.wrap (b_s10_l27 + 1)))] (x_end rfl ?_))
       obtain rfl := some_inj h
       exact k_then ⟨(m27, (d18_l27.set (Int.toNat b_s10_l27) (IntKind.i64.wrap (x31 + x21.2.2.2))), IntKind.i64.wrap (b_s10_l27 + 1)), ⟨rfl, rfl, rfl, rfl, rfl, rfl, rfl, rfl, trivial⟩, ⟨hn27, hev, hms, hfr, hs_p1_1, hb5, ho17, hb23, hs_p0_0⟩, Nat.lt_succ_self _⟩
     refine c_skip (k_block (k_then (c_plain (x_u 3 [(42, Vi b_s10_l27), (43, Vi (IntKind.i64.wrap (b_s10_l27 + 1))), (10, Vi (IntKind.i64.wrap (b_s10_l27 + 1)))] (x_end rfl ?_)))))
     obtain rfl := some_inj h
     exact k_then ⟨(m27, d18_l27, IntKind.i64.wrap (b_s10_l27 + 1)), ⟨rfl, rfl, rfl, rfl, rfl, rfl, rfl, rfl, trivial⟩, ⟨hn27, hev, hms, hfr, hs_p1_1, hb5, ho17, hb23, hs_p0_0⟩, Nat.lt_succ_self _⟩
   refine c_exit (k_then_exit ?_)
   obtain rfl := some_inj h
   have hy := some_inj hn27
   subst hy
   replace h := h27
   refine k_then_exit (k_block_in (k_then (c_nm [(3, Vp b5 0), (7, .slice a17 (d18_l27).length c17), (9, Vp b23 0), (29, .slice a_p0_0 (p0_0).length c_p0_0), (30, Vi ((p0_0).length : Int)), (31, Vi t31__s31_l19)] (fun J => ?_))))
   refine c_drawn [] [(0, false), (1, false), (2, false), (3, false), (4, false), (5, false), (6, false), (7, false), (8, false), (9, false), (10, false), (11, false), (12, true)] _ (by kernel_rfl) rfl ?_
   have hst := Stp.ext (ls := [[b5], blk a17, [b23], M]) (Ev.drew wl27)
   replace hb5 := (Ev.drew wl27).box hb5 nn
   replace hs_p1_1 := hs_p1_1.step hst
   replace ho17 := ho17.step hst (Ev.drew wl27) nn2
   replace hb23 := (Ev.drew wl27).box hb23 nn
   replace hs_p0_0 := hs_p0_0.step hst
   replace hms := hms.ev (Ev.drew wl27)
   replace hev := hev.ext (Ev.drew wl27)
   refine x_u 1 [(61, .slice a17 (d18_l27).length c17)] (x_fieldAddr (xv := Vp b5 0) (Vp b5 0) rfl rfl rfl (reads_field tfld52_0 _ _) (x_load (xv := Vp b5 0) (Vi p1_0) rfl rfl rfl (reads_box tcell3 hb5 nn 0 _ rfl) (x_fieldAddr (xv := Vp b23 0) (Vp b23 0) rfl rfl rfl (reads_field tfld76_0 _ _) (x_load (xv := Vp b23 0) (Vi x21.1) rfl rfl rfl (reads_box tcell3 hb23 nn 0 _ rfl) (x_u 1 [(66, Vi (IntKind.i64.wrap (p1_0 + x21.1)))] ?_)))))
   obtain ⟨x36, hx36, h⟩ := bind_some h
   obtain ⟨g36, cs36, ha36, hr36, hc36, hR⟩ := own_index (Mo := []) tsl22 ho17 hx36
   obtain rfl := hR
   refine x_indexAddr (xv := .slice a17 (d18_l27).length c17) (yv := Vi (IntKind.i64.wrap (p1_0 + x21.1))) (.pointer (some ⟨g36, (Int.toNat (IntKind.i64.wrap (p1_0 + x21.1))) * (eInt .i64).n, none⟩)) rfl rfl rfl rfl hr36 (x_load (xv := .pointer (some ⟨g36, (Int.toNat (IntKind.i64.wrap (p1_0 + x21.1))) * (eInt .i64).n, none⟩)) (Vi x36) rfl rfl rfl (reads_cell0 tcell3 hc36 (fun _ h => by cases h)) ?_)
   refine x_fieldAddr (xv := Vp b23 0) (Vp b23 3) rfl rfl rfl (reads_field tfld76_3 _ _) (x_load (xv := Vp b23 3) (Vi x21.2.2.2) rfl rfl rfl (reads_box tcell3 hb23 nn 3 _ rfl) (x_u 1 [(71, Vi (IntKind.i64.wrap (x36 + x21.2.2.2)))] ?_))
   obtain ⟨x38, hx38, h⟩ := bind_some h
   obtain ⟨g38, cs38, ha38, hr38, hc38, hR⟩ := own_index (Mo := []) tsl22 ho17 hx38
   obtain rfl := hR
   refine x_indexAddr (xv := .slice a17 (d18_l27).length c17) (yv := Vi (IntKind.i64.wrap (p1_0 + x21.1))) (.pointer (some ⟨g38, (Int.toNat (IntKind.i64.wrap (p1_0 + x21.1))) * (eInt .i64).n, none⟩)) rfl rfl rfl rfl hr38 ?_
   have hxs39_37 := hx36
   obtain ⟨w40, hr40, he40, ho40⟩ := own_storeE ha38 (y := IntKind.i64.wrap (x36 + x21.2.2.2)) 0 (Vi (IntKind.i64.wrap (x36 + x21.2.2.2))) tcell3 ho17 (mem_flat 1 rfl) hx38 rfl rfl (fun _ _ _ hR => set_int hR)
   refine x_store w40 (xv := .pointer (some ⟨g38, (Int.toNat (IntKind.i64.wrap (p1_0 + x21.1))) * (eInt .i64).n, none⟩)) (yv := Vi (IntKind.i64.wrap (x36 + x21.2.2.2))) rfl rfl rfl rfl hr40 (inl1 ?_)
   have hst := Stp.ev' (ls := [[b5], blk a17, [b23], M]) he40 (mem_flat 1 rfl)
   replace hb5 := he40.box hb5 (hms.apart 0 1 rfl rfl rfl _ mem1)
   replace hs_p1_1 := hs_p1_1.step hst
   replace hs_p0_0 := hs_p0_0.step hst
   replace hms := hms.ev he40
   replace hev := hev.then he40 (fun b hb => .inr (hfr.at 1 rfl b hb))
   replace ho17 := ho40
   have hsl : (Value.slice a17 (d18_l27).length c17) = (Value.slice a17 ((d18_l27.set (Int.toNat (IntKind.i64.wrap (p1_0 + x21.1))) (IntKind.i64.wrap (x36 + x21.2.2.2)))).length c17) := by first | (rw [List.length_set]; done) | simp only [List.length_set]
   try rw [hsl]
   clear hsl
   obtain ⟨_, hxs39_37⟩ : ∃ y, idx (d18_l27.set (Int.toNat (IntKind.i64.wrap (p1_0 + x21.1))) (IntKind.i64.wrap (x36 + x21.2.2.2))) (IntKind.i64.wrap (p1_0 + x21.1)) = some y := idx_set_any hxs39_37 _ _
   refine x_end rfl (k_block (k_then (c_plain (x_u 2 [(73, Vi (IntKind.i64.wrap (t31__s31_l19 + 1))), (31, Vi (IntKind.i64.wrap (t31__s31_l19 + 1)))] (x_end rfl ?_)))))
   obtain rfl := some_inj h
   have hpk := hms.pick [some 0, some 1, some 3] [[b5], blk a17, M] rfl
   have hsu := pick_sub (ls := [[b5], blk a17, [b23], M]) [some 0, some 1, some 3] [[b5], blk a17, M] rfl
   replace hs_p1_1 := hs_p1_1.sub hsu
   replace ho17 := ho17.sub hsu
   replace hs_p0_0 := hs_p0_0.sub hsu
   replace hms := hpk
   replace hfr := hfr.pick [some 0, some 1] [[b5], blk a17] rfl
   clear hpk hsu
   exact k_then ⟨(m19, (d18_l27.set (Int.toNat (IntKind.i64.wrap (p1_0 + x21.1))) (IntKind.i64.wrap (x36 + x21.2.2.2))), IntKind.i64.wrap (t31__s31_l19 + 1)), ⟨rfl, rfl, rfl, rfl, rfl, trivial⟩, ⟨hn19, hev, hms, hfr, hs_p1_1, hb5, ho17, hs_p0_0⟩, Nat.lt_succ_self _⟩
 refine c_exit (k_then_exit ?_)
 obtain rfl := some_inj h
 have hy := some_inj hn19
 subst hy
 replace h := h19
 refine k_then_exit (k_block_in (k_then (c_nm [(7, .slice a17 (d18_l19).length c17)] (fun J => ?_))))
 refine c_sp (x_u 3 [(74, .slice a17 (d18_l19).length c17), (4, .slice a17 (d18_l19).length c17), (5, Vi 0)] (x_ek (c_ret (r_ret (r_vals [.slice a17 (d18_l19).length c17, Vi 0] ⟨rfl, rfl, trivial⟩ ?_)))))
 obtain rfl := some_inj h
 have hmr := hms.pick [some 1, some 2] [blk a17, M] rfl
 have hsu := pick_sub (ls := [[b5], blk a17, M]) [some 1, some 2] [blk a17, M] rfl
 have hfe := hfr.pick [some 1] [blk a17] rfl
 exact ⟨a17, c17, rfl, hev, hmr, hfe, ho17.sub hsu⟩
end Go.Proofs.YtlejnkhaphlooaaGreat
