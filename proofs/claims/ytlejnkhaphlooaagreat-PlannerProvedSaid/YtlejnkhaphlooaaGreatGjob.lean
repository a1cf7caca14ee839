
/- Walks, printed by program: each function returns what the partial function of the same name returns. Conditions: those of each theorem. -/
import Derived.Test.YtlejnkhaphlooaaGreatGT
set_option linter.unusedVariables false
set_option linter.unusedSimpArgs false
set_option maxRecDepth 4000
namespace Go.Proofs.YtlejnkhaphlooaaGreat
open Go Go.V Go.Proofs
def job_in (p0 : Int) (p1 : Int) (p2 : Int) : Option Bool :=
(if (decide (p0 ≥ p1)) = true then
some (decide (p0 ≤ p2))
else
some false)
theorem job_in_w (p0 : Int) (p1 : Int) (p2 : Int) (r : Bool) (w : World) (h : job_in p0 p1 p2 = some r) : CallVC Tryz.prog 56 [Vi p0, Vi p1, Vi p2] w fun v w' => v = .bool r ∧ Ev [] w w' := by
 refine calls_vc hmx Tryz.func56 (by kernel_rfl) rfl (rs := [.tmp 6]) rfl (by kernel_rfl) (args := [Vi p0, Vi p1, Vi p2]) rfl ?_
 have hev : Ev [] w w := Ev.refl _ _
 have hms : MS w [[]] := ⟨List.pairwise_singleton _ _, fun l hl b hb => by simp only [List.mem_singleton] at hl; subst hl; cases hb⟩
 refine c_sp (x_u 1 [(6, .bool false)] (x_ek (c_sp (x_u 4 [(7, Vi p0), (8, Vi p1), (9, .bool (decide (p0 ≥ p1))), (10, .bool (decide (p0 ≥ p1)))] (x_if 10 (decide (p0 ≥ p1)) rfl h (fun h => ?_) (fun h => ?_))))))
 · refine x_u 5 [(11, Vi p0), (12, Vi p2), (13, .bool (decide (p0 ≤ p2))), (14, .bool (decide (p0 ≤ p2))), (6, .bool (decide (p0 ≤ p2)))] (x_ek (c_ret (r_ret (r_vals [.bool (decide (p0 ≤ p2))] ⟨rfl, trivial⟩ ?_))))
   obtain rfl := some_inj h
   exact ⟨rfl, hev⟩
 refine x_u 5 [(11, undef), (12, undef), (13, undef), (14, .bool false), (6, .bool false)] (x_ek (c_ret (r_ret (r_vals [.bool false] ⟨rfl, trivial⟩ ?_))))
 obtain rfl := some_inj h
 exact ⟨rfl, hev⟩
def job_Valid_L8 (p0_0 : List (Int × Int × Int × Int)) (s : Int) : Option (Step Int (Int ⊕ Unit)) :=
match s with
| t16__s16_l8 =>
(if (decide (t16__s16_l8 < ((p0_0).length : Int))) = true then
((idx p0_0 t16__s16_l8).bind fun x10 =>
((job_in x10.1 0 15).bind fun x16 =>
(if (!x16) = true then
some (.done (.inl 2))
else
((job_in x10.2.1 0 31).bind fun x18 =>
(if (!x18) = true then
some (.done (.inl 2))
else
((job_in x10.2.2.1 0 12).bind fun x20 =>
(if (!x20) = true then
some (.done (.inl 2))
else
((job_in x10.2.2.2 1 400).bind fun x22 =>
(if (!x22) = true then
some (.done (.inl 2))
else
(if (decide (t16__s16_l8 > 0)) = true then
((idx p0_0 (IntKind.i64.wrap (t16__s16_l8 - 1))).bind fun x24 =>
(if (decide (x10.2.2.1 < x24.2.2.1)) = true then
some (.done (.inl 12))
else
some (.next (IntKind.i64.wrap (t16__s16_l8 + 1)))))
else
some (.next (IntKind.i64.wrap (t16__s16_l8 + 1)))))))))))))
else
some (.done (.inr ())))
def job_Valid (p0_0 : List (Int × Int × Int × Int)) (p0_1 : Int) : Option Int :=
(if (decide (((p0_0).length : Int) > 96)) = true then
some 3
else
((job_in p0_1 0 12).bind fun x6 =>
(if (!x6) = true then
some 2
else
((loop (job_Valid_L8 p0_0) 0).bind fun d => match d with
| (.inl t2__s2_x800) => some t2__s2_x800
| (.inr _) => some 0))))
theorem job_Valid_w (a_p0_0 : Option Addr) (c_p0_0 : Nat) (p0_0 : List (Int × Int × Int × Int)) (p0_1 : Int) (r : Int) (w : World) (M : List Nat) (hms : MS w [M]) (hs_p0_0 : SlR (eIt4) w (fl [M]) a_p0_0 c_p0_0 p0_0) (h : job_Valid p0_0 p0_1 = some r) : CallVC Tryz.prog 46 [.agg #[Vl a_p0_0 p0_0 c_p0_0, Vi p0_1]] w fun v w' => v = Vi r ∧ Ev [] w w' := by
 refine calls_vc hmx Tryz.func46 (by kernel_rfl) rfl (rs := [.tmp 2]) rfl (by kernel_rfl) (args := [.agg #[Vl a_p0_0 p0_0 c_p0_0, Vi p0_1]]) rfl ?_
 have hev : Ev [] w w := Ev.refl _ _
 have hfr : FR w.heap.size [] := FR.nil _
 refine c_sp (x_box (xv := .agg #[Vl a_p0_0 p0_0 c_p0_0, Vi p0_1]) rfl rfl rfl (fun b2 w2 hq2 hb2 he2 hz2 => ?_))
 replace hb2 : w2.heap[b2]? = some (.cells #[Vl a_p0_0 p0_0 c_p0_0, Vi p0_1] 50 (0, 0)) := hb2
 refine inl1 ?_
 have hst := Stp.box (ls := [M]) he2 hq2
 replace hs_p0_0 := hs_p0_0.step hst
 replace hms := hms.box he2 hq2 hb2
 replace hfr := hfr.box hev.size hq2
 replace hev := hev.ext he2
 refine x_u 1 [(2, Vi 0)] (x_ek (c_seq (c_sp (x_fieldAddr (xv := Vp b2 0) (Vp b2 0) rfl rfl rfl (reads_field tfld50_0 _ _) (x_load (xv := Vp b2 0) (Vl a_p0_0 p0_0 c_p0_0) rfl rfl rfl (reads_box tcell36 hb2 nn 0 _ rfl) ?_)))))
 refine x_len (vs := [Vl a_p0_0 p0_0 c_p0_0]) (Vi ((p0_0).length : Int)) rfl rfl rfl (reads_len tsl36 _ _ _ _ _) (x_u 1 [(8, .bool (decide (((p0_0).length : Int) > 96)))] (x_ek (c_if (decide (((p0_0).length : Int) > 96)) rfl h (fun h => ?_) (fun h => ?_))))
 · refine c_sp (x_u 1 [(2, Vi 3)] (x_ek (c_ret (k_then_ret (r_ret (r_vals [Vi 3] ⟨rfl, trivial⟩ ?_))))))
   obtain rfl := some_inj h
   exact ⟨rfl, hev⟩
 refine c_skip (k_then (c_seq (c_sp (x_fieldAddr (xv := Vp b2 0) (Vp b2 1) rfl rfl rfl (reads_field tfld50_1 _ _) (x_load (xv := Vp b2 1) (Vi p0_1) rfl rfl rfl (reads_box tcell3 hb2 nn 1 _ rfl) ?_)))))
 obtain ⟨x6, hx, h⟩ := bind_some h
 have hcall := job_in_w p0_1 0 12 _ w2 hx
 refine x_call 56 #[] #[] [Vi p0_1, Vi 0, Vi 12] _ rfl rfl rfl rfl hcall ?_
 rintro v w7 ⟨rfl, he7⟩
 clear hcall hx
 refine inl1 ?_
 have hst := Stp.ext (ls := [[b2], M]) he7
 replace hs_p0_0 := hs_p0_0.step hst
 replace hb2 := he7.box hb2 nn
 replace hms := hms.ev he7
 replace hev := hev.ext he7
 refine x_u 1 [(12, .bool (!x6))] (x_ek (c_if (!x6) rfl h (fun h => ?_) (fun h => ?_)))
 · refine c_sp (x_u 1 [(2, Vi 2)] (x_ek (c_ret (k_then_ret (r_ret (r_vals [Vi 2] ⟨rfl, trivial⟩ ?_))))))
   obtain rfl := some_inj h
   exact ⟨rfl, hev⟩
 refine c_skip (k_then (c_seq (c_sp (x_fieldAddr (xv := Vp b2 0) (Vp b2 0) rfl rfl rfl (reads_field tfld50_0 _ _) (x_load (xv := Vp b2 0) (Vl a_p0_0 p0_0 c_p0_0) rfl rfl rfl (reads_box tcell36 hb2 nn 0 _ rfl) ?_)))))
 refine x_len (vs := [Vl a_p0_0 p0_0 c_p0_0]) (Vi ((p0_0).length : Int)) rfl rfl rfl (reads_len tsl36 _ _ _ _ _) (x_u 1 [(16, Vi 0)] (x_ek (c_nm [(1, Vp b2 0), (14, Vl a_p0_0 p0_0 c_p0_0), (15, Vi ((p0_0).length : Int)), (16, Vi 0)] (fun J => ?_))))
 refine c_block ?_
 obtain ⟨d8, hd8, h8⟩ := bind_some h
 obtain ⟨m8, hd8⟩ := loop_some hd8
 refine c_loop (loop_rule hmx (σ := Nat × Int) (fun s => match s with | (_, t16__s16_l8) => [(1, Vp b2 0), (14, Vl a_p0_0 p0_0 c_p0_0), (15, Vi ((p0_0).length : Int)), (16, Vi t16__s16_l8)]) (fun s w' => match s with | (m, t16__s16_l8) => loopN (job_Valid_L8 p0_0) m t16__s16_l8 = some d8 ∧ Ev [] w w' ∧ MS w' [[b2], M] ∧ FR w.heap.size [[b2]] ∧ SlR (eIt4) w' (fl [[b2], M]) a_p0_0 c_p0_0 p0_0 ∧ w'.heap[b2]? = some (.cells #[Vl a_p0_0 p0_0 c_p0_0, Vi p0_1] 50 (0, 0))) (fun s => s.1) (m8, 0) ⟨rfl, rfl, rfl, rfl, trivial⟩ ⟨hd8, hev, hms, hfr, hs_p0_0, hb2⟩ ?_)
 rintro ⟨m8, t16__s16_l8⟩ J wl8 ⟨hn8, hev, hms, hfr, hs_p0_0, hb2⟩
 rcases m8 with _ | m8
 · exact (loopN_zero hn8).elim
 obtain ⟨t8, h, hn8⟩ := bind_some hn8
 refine c_sp (x_u 1 [(17, .bool (decide (t16__s16_l8 < ((p0_0).length : Int))))] (x_ek (c_nm [(1, Vp b2 0), (14, Vl a_p0_0 p0_0 c_p0_0), (15, Vi ((p0_0).length : Int)), (16, Vi t16__s16_l8), (17, .bool (decide (t16__s16_l8 < ((p0_0).length : Int))))] (fun J => ?_))))
 refine c_seq (c_if (decide (t16__s16_l8 < ((p0_0).length : Int))) rfl h (fun h => ?_) (fun h => ?_))
 · refine c_skip (k_then (c_seq (c_block (c_sp (x_u 1 [(18, Vi t16__s16_l8)] ?_)))))
   obtain ⟨x10, hx10, h⟩ := bind_some h
   obtain ⟨ad10, cs10, hr10, hc10, hR⟩ := reads_index (Mo := []) tsl36 hs_p0_0 hx10
   obtain ⟨_, _, rfl, rfl, ⟨_, _, rfl, rfl, ⟨_, _, rfl, rfl, rfl⟩⟩⟩ := hR
   refine x_indexAddr (xv := Vl a_p0_0 p0_0 c_p0_0) (yv := Vi t16__s16_l8) (.pointer (some ad10)) rfl rfl rfl rfl hr10 (x_load (xv := .pointer (some ad10)) (.agg #[Vi x10.1, Vi x10.2.1, Vi x10.2.2.1, Vi x10.2.2.2]) rfl rfl rfl (reads_agg tagg76 hc10 (fun _ h => by cases h)) ?_)
   refine x_alloc (z := .agg #[Vi 0, Vi 0, Vi 0, Vi 0]) rfl rfl (by kernel_rfl) (fun b12 w12 hq12 hb12 he12 hz12 => ?_)
   replace hb12 : w12.heap[b12]? = some (.cells #[Vi 0, Vi 0, Vi 0, Vi 0] 76 (0, 0)) := hb12
   refine inl1 ?_
   have hst := Stp.box (ls := [[b2], M]) he12 hq12
   replace hb2 := he12.box hb2 nn
   replace hs_p0_0 := hs_p0_0.step hst
   replace hms := hms.box he12 hq12 hb12
   replace hfr := hfr.box hev.size hq12
   replace hev := hev.ext he12
   refine x_u 1 [(3, Vi t16__s16_l8)] ?_
   obtain ⟨w14, hr14, hb14, he14⟩ := store_boxagg 0 [Vi x10.1, Vi x10.2.1, Vi x10.2.2.1, Vi x10.2.2.2] #[Vi x10.1, Vi x10.2.1, Vi x10.2.2.1, Vi x10.2.2.2] tagg76 hb12 rfl rfl rfl
   refine x_store w14 (xv := Vp b12 0) (yv := .agg #[Vi x10.1, Vi x10.2.1, Vi x10.2.2.1, Vi x10.2.2.2]) rfl rfl rfl rfl hr14 (inl1 ?_)
   have hst := Stp.ev' (ls := [[b12], [b2], M]) he14 (mem_flat 0 rfl)
   replace hb2 := he14.box hb2 (hms.apart 1 0 rfl rfl rfl _ mem1)
   replace hs_p0_0 := hs_p0_0.step hst
   replace hms := hms.ev he14
   replace hev := hev.then he14 (fun b hb => .inr (hfr.at 0 rfl b hb))
   replace hb12 := hb14
   refine x_ek (c_seq (c_sp (x_fieldAddr (xv := Vp b12 0) (Vp b12 0) rfl rfl rfl (reads_field tfld76_0 _ _) (x_load (xv := Vp b12 0) (Vi x10.1) rfl rfl rfl (reads_box tcell3 hb12 nn 0 _ rfl) ?_))))
   obtain ⟨x16, hx, h⟩ := bind_some h
   have hcall := job_in_w x10.1 0 15 _ w14 hx
   refine x_call 56 #[] #[] [Vi x10.1, Vi 0, Vi 15] _ rfl rfl rfl rfl hcall ?_
   rintro v w17 ⟨rfl, he17⟩
   clear hcall hx
   refine inl1 ?_
   have hst := Stp.ext (ls := [[b12], [b2], M]) he17
   replace hb2 := he17.box hb2 nn
   replace hs_p0_0 := hs_p0_0.step hst
   replace hb12 := he17.box hb12 nn
   replace hms := hms.ev he17
   replace hev := hev.ext he17
   refine x_u 2 [(24, .bool (!x16)), (25, .bool (!x16))] (x_if 25 (!x16) rfl h (fun h => ?_) (fun h => ?_))
   · refine x_u 17 [(26, undef), (27, undef), (28, undef), (29, undef), (30, .bool true), (31, .bool true), (32, undef), (33, undef), (34, undef), (35, undef), (36, .bool true), (37, .bool true), (38, undef), (39, undef), (40, undef), (41, undef), (42, .bool true)] (x_ek (c_nm [(1, Vp b2 0), (3, Vi t16__s16_l8), (4, Vp b12 0), (14, Vl a_p0_0 p0_0 c_p0_0), (15, Vi ((p0_0).length : Int)), (16, Vi t16__s16_l8), (42, .bool true)] (fun J => ?_)))
     refine c_true rfl (c_sp (x_u 1 [(2, Vi 2)] (x_ek (c_ret (k_then_ret ?_)))))
     refine k_block_ret (k_then_ret ?_)
     obtain rfl := some_inj h
     have hy := some_inj hn8
     subst hy
     replace h := h8
     refine k_then_ret (k_block_ret (k_then_ret (r_ret (r_vals [Vi 2] ⟨rfl, trivial⟩ ?_))))
     obtain rfl := some_inj h
     exact ⟨rfl, hev⟩
   refine x_fieldAddr (xv := Vp b12 0) (Vp b12 1) rfl rfl rfl (reads_field tfld76_1 _ _) (x_load (xv := Vp b12 1) (Vi x10.2.1) rfl rfl rfl (reads_box tcell3 hb12 nn 1 _ rfl) ?_)
   obtain ⟨x18, hx, h⟩ := bind_some h
   have hcall := job_in_w x10.2.1 0 31 _ w17 hx
   refine x_call 56 #[] #[] [Vi x10.2.1, Vi 0, Vi 31] _ rfl rfl rfl rfl hcall ?_
   rintro v w19 ⟨rfl, he19⟩
   clear hcall hx
   refine inl1 ?_
   have hst := Stp.ext (ls := [[b12], [b2], M]) he19
   replace hb2 := he19.box hb2 nn
   replace hs_p0_0 := hs_p0_0.step hst
   replace hb12 := he19.box hb12 nn
   replace hms := hms.ev he19
   replace hev := hev.ext he19
   refine x_u 3 [(29, .bool (!x18)), (30, .bool (!x18)), (31, .bool (!x18))] (x_if 31 (!x18) rfl h (fun h => ?_) (fun h => ?_))
   · refine x_u 11 [(32, undef), (33, undef), (34, undef), (35, undef), (36, .bool true), (37, .bool true), (38, undef), (39, undef), (40, undef), (41, undef), (42, .bool true)] (x_ek (c_nm [(1, Vp b2 0), (3, Vi t16__s16_l8), (4, Vp b12 0), (14, Vl a_p0_0 p0_0 c_p0_0), (15, Vi ((p0_0).length : Int)), (16, Vi t16__s16_l8), (42, .bool true)] (fun J => ?_)))
     refine c_true rfl (c_sp (x_u 1 [(2, Vi 2)] (x_ek (c_ret (k_then_ret ?_)))))
     refine k_block_ret (k_then_ret ?_)
     obtain rfl := some_inj h
     have hy := some_inj hn8
     subst hy
     replace h := h8
     refine k_then_ret (k_block_ret (k_then_ret (r_ret (r_vals [Vi 2] ⟨rfl, trivial⟩ ?_))))
     obtain rfl := some_inj h
     exact ⟨rfl, hev⟩
   refine x_fieldAddr (xv := Vp b12 0) (Vp b12 2) rfl rfl rfl (reads_field tfld76_2 _ _) (x_load (xv := Vp b12 2) (Vi x10.2.2.1) rfl rfl rfl (reads_box tcell3 hb12 nn 2 _ rfl) ?_)
   obtain ⟨x20, hx, h⟩ := bind_some h
   have hcall := job_in_w x10.2.2.1 0 12 _ w19 hx
   refine x_call 56 #[] #[] [Vi x10.2.2.1, Vi 0, Vi 12] _ rfl rfl rfl rfl hcall ?_
   rintro v w21 ⟨rfl, he21⟩
   clear hcall hx
   refine inl1 ?_
   have hst := Stp.ext (ls := [[b12], [b2], M]) he21
   replace hb2 := he21.box hb2 nn
   replace hs_p0_0 := hs_p0_0.step hst
   replace hb12 := he21.box hb12 nn
   replace hms := hms.ev he21
   replace hev := hev.ext he21
   refine x_u 3 [(35, .bool (!x20)), (36, .bool (!x20)), (37, .bool (!x20))] (x_if 37 (!x20) rfl h (fun h => ?_) (fun h => ?_))
   · refine x_u 5 [(38, undef), (39, undef), (40, undef), (41, undef), (42, .bool true)] (x_ek (c_nm [(1, Vp b2 0), (3, Vi t16__s16_l8), (4, Vp b12 0), (14, Vl a_p0_0 p0_0 c_p0_0), (15, Vi ((p0_0).length : Int)), (16, Vi t16__s16_l8), (42, .bool true)] (fun J => ?_)))
     refine c_true rfl (c_sp (x_u 1 [(2, Vi 2)] (x_ek (c_ret (k_then_ret ?_)))))
     refine k_block_ret (k_then_ret ?_)
     obtain rfl := some_inj h
     have hy := some_inj hn8
     subst hy
     replace h := h8
     refine k_then_ret (k_block_ret (k_then_ret (r_ret (r_vals [Vi 2] ⟨rfl, trivial⟩ ?_))))
     obtain rfl := some_inj h
     exact ⟨rfl, hev⟩
   refine x_fieldAddr (xv := Vp b12 0) (Vp b12 3) rfl rfl rfl (reads_field tfld76_3 _ _) (x_load (xv := Vp b12 3) (Vi x10.2.2.2) rfl rfl rfl (reads_box tcell3 hb12 nn 3 _ rfl) ?_)
   obtain ⟨x22, hx, h⟩ := bind_some h
   have hcall := job_in_w x10.2.2.2 1 400 _ w21 hx
   refine x_call 56 #[] #[] [Vi x10.2.2.2, Vi 1, Vi 400] _ rfl rfl rfl rfl hcall ?_
   rintro v w23 ⟨rfl, he23⟩
   clear hcall hx
   refine inl1 ?_
   have hst := Stp.ext (ls := [[b12], [b2], M]) he23
   replace hb2 := he23.box hb2 nn
   replace hs_p0_0 := hs_p0_0.step hst
   replace hb12 := he23.box hb12 nn
   replace hms := hms.ev he23
   replace hev := hev.ext he23
   refine x_u 2 [(41, .bool (!x22)), (42, .bool (!x22))] (x_ek (c_nm [(1, Vp b2 0), (3, Vi t16__s16_l8), (4, Vp b12 0), (14, Vl a_p0_0 p0_0 c_p0_0), (15, Vi ((p0_0).length : Int)), (16, Vi t16__s16_l8), (42, .bool (!x22))] (fun J => ?_)))
   refine c_if (!x22) rfl h (fun h => ?_) (fun h => ?_)
   · refine c_sp (x_u 1 [(2, Vi 2)] (x_ek (c_ret (k_then_ret (k_block_ret ?_)))))
     refine k_then_ret ?_
     obtain rfl := some_inj h
     have hy := some_inj hn8
     subst hy
     replace h := h8
     refine k_then_ret (k_block_ret (k_then_ret (r_ret (r_vals [Vi 2] ⟨rfl, trivial⟩ ?_))))
     obtain rfl := some_inj h
     exact ⟨rfl, hev⟩
   refine c_skip (k_then (c_seq (c_drawn [] [(0, false), (1, false), (2, false), (3, false), (4, false), (5, false), (6, false), (7, false), (8, false), (9, false), (10, false), (11, false), (12, false), (13, false)] _ (by kernel_rfl) rfl ?_)))
   have hst := Stp.ext (ls := [[b12], [b2], M]) (Ev.drew w23)
   replace hb2 := (Ev.drew w23).box hb2 nn
   replace hs_p0_0 := hs_p0_0.step hst
   replace hb12 := (Ev.drew w23).box hb12 nn
   replace hms := hms.ev (Ev.drew w23)
   replace hev := hev.ext (Ev.drew w23)
   refine x_u 3 [(43, Vi t16__s16_l8), (44, .bool (decide (t16__s16_l8 > 0))), (45, .bool (decide (t16__s16_l8 > 0)))] (x_if 45 (decide (t16__s16_l8 > 0)) rfl h (fun h => ?_) (fun h => ?_))
   · refine x_fieldAddr (xv := Vp b12 0) (Vp b12 2) rfl rfl rfl (reads_field tfld76_2 _ _) (x_load (xv := Vp b12 2) (Vi x10.2.2.1) rfl rfl rfl (reads_box tcell3 hb12 nn 2 _ rfl) (x_fieldAddr (xv := Vp b2 0) (Vp b2 0) rfl rfl rfl (reads_field tfld50_0 _ _) (x_load (xv := Vp b2 0) (Vl a_p0_0 p0_0 c_p0_0) rfl rfl rfl (reads_box tcell36 hb2 nn 0 _ rfl) (x_u 2 [(50, Vi t16__s16_l8), (51, Vi (IntKind.i64.wrap (t16__s16_l8 - 1)))] ?_))))
     obtain ⟨x24, hx24, h⟩ := bind_some h
     obtain ⟨ad24, cs24, hr24, hc24, hR⟩ := reads_index (Mo := []) tsl36 hs_p0_0 hx24
     obtain ⟨_, _, rfl, rfl, ⟨_, _, rfl, rfl, ⟨_, _, rfl, rfl, rfl⟩⟩⟩ := hR
     refine x_indexAddr (xv := Vl a_p0_0 p0_0 c_p0_0) (yv := Vi (IntKind.i64.wrap (t16__s16_l8 - 1))) (.pointer (some ad24)) rfl rfl rfl rfl hr24 (x_fieldAddr (xv := .pointer (some ad24)) (.pointer (some (Addr.add ad24 2))) rfl rfl rfl (reads_field tfld76_2 _ _) (x_load (xv := .pointer (some (Addr.add ad24 2))) (Vi x24.2.2.1) rfl rfl rfl (reads_cell tcell3 hc24 (fun _ h => by cases h) 2 _ rfl) ?_))
     refine x_u 2 [(55, .bool (decide (x10.2.2.1 < x24.2.2.1))), (56, .bool (decide (x10.2.2.1 < x24.2.2.1)))] (x_ek (c_nm [(1, Vp b2 0), (14, Vl a_p0_0 p0_0 c_p0_0), (15, Vi ((p0_0).length : Int)), (16, Vi t16__s16_l8), (56, .bool (decide (x10.2.2.1 < x24.2.2.1)))] (fun J => ?_)))
     refine c_if (decide (x10.2.2.1 < x24.2.2.1)) rfl h (fun h => ?_) (fun h => ?_)
     · refine c_sp (x_u 1 [(2, Vi 12)] (x_ek (c_ret (k_block_ret (k_then_ret ?_)))))
       obtain rfl := some_inj h
       have hy := some_inj hn8
       subst hy
       replace h := h8
       refine k_then_ret (k_block_ret (k_then_ret (r_ret (r_vals [Vi 12] ⟨rfl, trivial⟩ ?_))))
       obtain rfl := some_inj h
       exact ⟨rfl, hev⟩
     refine c_skip (k_block (k_then (c_plain (x_u 2 [(57, Vi (IntKind.i64.wrap (t16__s16_l8 + 1))), (16, Vi (IntKind.i64.wrap (t16__s16_l8 + 1)))] (x_end rfl ?_)))))
     obtain rfl := some_inj h
     have hpk : MS (w23).drew [[b2], M] := hms.pick [some 1, some 2] _ rfl
     have hsu := pick_sub (ls := [[b12], [b2], M]) [some 1, some 2] [[b2], M] rfl
     replace hs_p0_0 := hs_p0_0.sub hsu
     replace hms := hpk
     replace hfr := hfr.pick [some 1] [[b2]] rfl
     clear hpk hsu
     exact k_then ⟨(m8, IntKind.i64.wrap (t16__s16_l8 + 1)), ⟨rfl, rfl, rfl, rfl, trivial⟩, ⟨hn8, hev, hms, hfr, hs_p0_0, hb2⟩, Nat.lt_succ_self _⟩
   refine x_u 11 [(46, undef), (47, undef), (48, undef), (49, undef), (50, undef), (51, undef), (52, undef), (53, undef), (54, undef), (55, undef), (56, .bool false)] (x_ek (c_nm [(1, Vp b2 0), (14, Vl a_p0_0 p0_0 c_p0_0), (15, Vi ((p0_0).length : Int)), (16, Vi t16__s16_l8), (56, .bool false)] (fun J => ?_)))
   refine c_false rfl (c_skip (k_block (k_then (c_plain (x_u 2 [(57, Vi (IntKind.i64.wrap (t16__s16_l8 + 1))), (16, Vi (IntKind.i64.wrap (t16__s16_l8 + 1)))] ?_)))))
   refine x_end rfl ?_
   obtain rfl := some_inj h
   have hpk : MS (w23).drew [[b2], M] := hms.pick [some 1, some 2] _ rfl
   have hsu := pick_sub (ls := [[b12], [b2], M]) [some 1, some 2] [[b2], M] rfl
   replace hs_p0_0 := hs_p0_0.sub hsu
   replace hms := hpk
   replace hfr := hfr.pick [some 1] [[b2]] rfl
   clear hpk hsu
   exact k_then ⟨(m8, IntKind.i64.wrap (t16__s16_l8 + 1)), ⟨rfl, rfl, rfl, rfl, trivial⟩, ⟨hn8, hev, hms, hfr, hs_p0_0, hb2⟩, Nat.lt_succ_self _⟩
 refine c_exit (k_then_exit ?_)
 obtain rfl := some_inj h
 have hy := some_inj hn8
 subst hy
 replace h := h8
 refine k_then_exit (k_block_in (k_then (c_norm [] trivial (fun J => ?_))))
 refine c_sp (x_u 1 [(2, Vi 0)] (x_ek (c_ret (r_ret (r_vals [Vi 0] ⟨rfl, trivial⟩ ?_)))))
 obtain rfl := some_inj h
 exact ⟨rfl, hev⟩
def job_relation_J9 (p1 : Int) (p2 : Int) (t19__s19_j9 : Bool) : Option Int :=
(if t19__s19_j9 = true then
some 0
else
(if (decide (p2 < p1)) = true then
some 2
else
some 1))
def job_relation_J4 (p1 : Int) (p2 : Int) (e10_j4_0 : Int) (e10_j4_1 : Int) (e10_j4_2 : Int) (e10_j4_3 : Int) (e12_j4_0 : Int) (e12_j4_1 : Int) (e12_j4_2 : Int) (e12_j4_3 : Int) : Option Int :=
(if (e10_j4_0 != e12_j4_0) = true then
job_relation_J9 p1 p2 true
else
job_relation_J9 p1 p2 (decide (e10_j4_1 ≥ e12_j4_1)))
def job_relation (p0_0 : List (Int × Int × Int × Int)) (p0_1 : Int) (p1 : Int) (p2 : Int) : Option Int :=
((idx p0_0 p1).bind fun x5 =>
((idx p0_0 p2).bind fun x7 =>
job_relation_J4 p1 p2 x5.1 x5.2.1 x5.2.2.1 x5.2.2.2 x7.1 x7.2.1 x7.2.2.1 x7.2.2.2))
theorem job_relation_w (a_p0_0 : Option Addr) (c_p0_0 : Nat) (p0_0 : List (Int × Int × Int × Int)) (p0_1 : Int) (p1 : Int) (p2 : Int) (r : Int) (w : World) (M : List Nat) (hms : MS w [M]) (hs_p0_0 : SlR (eIt4) w (fl [M]) a_p0_0 c_p0_0 p0_0) (h : job_relation p0_0 p0_1 p1 p2 = some r) : CallVC Tryz.prog 122 [.agg #[Vl a_p0_0 p0_0 c_p0_0, Vi p0_1], Vi p1, Vi p2] w fun v w' => v = Vi r ∧ Ev [] w w' := by
 refine calls_vc hmx Tryz.func122 (by kernel_rfl) rfl (rs := [.tmp 6]) rfl (by kernel_rfl) (args := [.agg #[Vl a_p0_0 p0_0 c_p0_0, Vi p0_1], Vi p1, Vi p2]) rfl ?_
 have hev : Ev [] w w := Ev.refl _ _
 have hfr : FR w.heap.size [] := FR.nil _
 refine c_sp (x_box (xv := .agg #[Vl a_p0_0 p0_0 c_p0_0, Vi p0_1]) rfl rfl rfl (fun b2 w2 hq2 hb2 he2 hz2 => ?_))
 replace hb2 : w2.heap[b2]? = some (.cells #[Vl a_p0_0 p0_0 c_p0_0, Vi p0_1] 50 (0, 0)) := hb2
 refine inl1 ?_
 have hst := Stp.box (ls := [M]) he2 hq2
 replace hs_p0_0 := hs_p0_0.step hst
 replace hms := hms.box he2 hq2 hb2
 replace hfr := hfr.box hev.size hq2
 replace hev := hev.ext he2
 refine x_u 1 [(6, Vi 0)] (x_ek (c_join (σ := Int × Int × Int × Int × Int × Int × Int × Int × Nat × Nat) (fun s => match s with | (e10_j4_0, e10_j4_1, e10_j4_2, e10_j4_3, e12_j4_0, e12_j4_1, e12_j4_2, e12_j4_3, b10_j4, b12_j4) => [(1, Vi p1), (2, Vi p2), (7, Vp b10_j4 0), (8, Vp b12_j4 0)]) (fun s w' => match s with | (e10_j4_0, e10_j4_1, e10_j4_2, e10_j4_3, e12_j4_0, e12_j4_1, e12_j4_2, e12_j4_3, b10_j4, b12_j4) => job_relation_J4 p1 p2 e10_j4_0 e10_j4_1 e10_j4_2 e10_j4_3 e12_j4_0 e12_j4_1 e12_j4_2 e12_j4_3 = some r ∧ Ev [] w w' ∧ MS w' [[b10_j4], [b12_j4], M] ∧ FR w.heap.size [[b10_j4], [b12_j4]] ∧ w'.heap[b10_j4]? = some (.cells #[Vi e10_j4_0, Vi e10_j4_1, Vi e10_j4_2, Vi e10_j4_3] 76 (0, 0)) ∧ w'.heap[b12_j4]? = some (.cells #[Vi e12_j4_0, Vi e12_j4_1, Vi e12_j4_2, Vi e12_j4_3] 76 (0, 0))) ?_ ?_))
 · refine c_drawnp (newmo (w2).drew) [(0, false), (1, false), (2, false), (3, false), (4, false), (5, false), (6, false), (7, false), (8, false), (9, false)] (.alt 10 false (opsThen [(11, false), (12, false), (13, true)] .stop) (.alt 11 false (opsThen [(10, false), (12, false), (13, true)] .stop) .none_)) _ (by kernel_rfl) rfl ?_
   have hst := Stp.ext (ls := [[b2], M]) (Ev.drew w2)
   replace hs_p0_0 := hs_p0_0.step hst
   replace hb2 := (Ev.drew w2).box hb2 nn
   replace hms := hms.ev (Ev.drew w2)
   replace hev := hev.ext (Ev.drew w2)
   have hnz : ((w2).drew).heap.size = ((w2).drew).heap.size + 0 := rfl
   refine x_fieldAddr (xv := Vp b2 0) (Vp b2 0) rfl rfl rfl (reads_field tfld50_0 _ _) (x_load (xv := Vp b2 0) (Vl a_p0_0 p0_0 c_p0_0) rfl rfl rfl (reads_box tcell36 hb2 ((newmo_out (hms.ltat 0 rfl)) _ mem1) 0 _ rfl) (x_u 1 [(11, Vi p1)] ?_))
   obtain ⟨x5, hx5, h⟩ := bind_some h
   obtain ⟨ad5, cs5, hr5, hc5, hR⟩ := reads_index (Mo := (newmo (w2).drew)) tsl36 hs_p0_0 hx5
   obtain ⟨_, _, rfl, rfl, ⟨_, _, rfl, rfl, ⟨_, _, rfl, rfl, rfl⟩⟩⟩ := hR
   refine x_indexAddr (xv := Vl a_p0_0 p0_0 c_p0_0) (yv := Vi p1) (.pointer (some ad5)) rfl rfl rfl rfl hr5 (x_load (xv := .pointer (some ad5)) (.agg #[Vi x5.1, Vi x5.2.1, Vi x5.2.2.1, Vi x5.2.2.2]) rfl rfl rfl (reads_agg tagg76 (CellsAt.newer hc5) (fun b hb => hb)) (x_fieldAddr (xv := Vp b2 0) (Vp b2 0) rfl rfl rfl (reads_field tfld50_0 _ _) (x_load (xv := Vp b2 0) (Vl a_p0_0 p0_0 c_p0_0) rfl rfl rfl (reads_box tcell36 hb2 ((newmo_out (hms.ltat 0 rfl)) _ mem1) 0 _ rfl) (x_u 1 [(16, Vi p2)] ?_))))
   obtain ⟨x7, hx7, h⟩ := bind_some h
   obtain ⟨ad7, cs7, hr7, hc7, hR⟩ := reads_index (Mo := (newmo (w2).drew)) tsl36 hs_p0_0 hx7
   obtain ⟨_, _, rfl, rfl, ⟨_, _, rfl, rfl, ⟨_, _, rfl, rfl, rfl⟩⟩⟩ := hR
   refine x_indexAddr (xv := Vl a_p0_0 p0_0 c_p0_0) (yv := Vi p2) (.pointer (some ad7)) rfl rfl rfl rfl hr7 (x_load (xv := .pointer (some ad7)) (.agg #[Vi x7.1, Vi x7.2.1, Vi x7.2.2.1, Vi x7.2.2.2]) rfl rfl rfl (reads_agg tagg76 (CellsAt.newer hc7) (fun b hb => hb)) (x_end rfl (t_alt _ rfl ?_ ?_)))
   · refine x_alloc (z := .agg #[Vi 0, Vi 0, Vi 0, Vi 0]) rfl rfl (by kernel_rfl) (fun b9 w9 hq9 hb9 he9 hz9 => ?_)
     replace hb9 : w9.heap[b9]? = some (.cells #[Vi 0, Vi 0, Vi 0, Vi 0] 76 (0, 0)) := hb9
     refine ⟨.inr (he9.nil), ?_⟩
     have hnb9 : b9 = ((w2).drew).heap.size + 0 := by omega
     replace hnz : w9.heap.size = ((w2).drew).heap.size + 1 := by omega
     replace hms := hms.box he9 hq9 hb9
     replace hfr := hfr.box hev.size hq9
     replace hev := hev.ext he9
     refine x_alloc (z := .agg #[Vi 0, Vi 0, Vi 0, Vi 0]) rfl rfl (by kernel_rfl) (fun b11 w11 hq11 hb11 he11 hz11 => ?_)
     replace hb11 : w11.heap[b11]? = some (.cells #[Vi 0, Vi 0, Vi 0, Vi 0] 76 (0, 0)) := hb11
     refine ⟨.inr (he11.nil), ?_⟩
     have hnb11 : b11 = ((w2).drew).heap.size + 1 := by omega
     replace hnz : w11.heap.size = ((w2).drew).heap.size + 2 := by omega
     replace hb9 := he11.box hb9 nn
     replace hms := hms.box he11 hq11 hb11
     replace hfr := hfr.box hev.size hq11
     replace hev := hev.ext he11
     obtain ⟨w13, hr13, hb13, he13⟩ := store_boxagg 0 [Vi x5.1, Vi x5.2.1, Vi x5.2.2.1, Vi x5.2.2.2] #[Vi x5.1, Vi x5.2.1, Vi x5.2.2.1, Vi x5.2.2.2] tagg76 hb9 rfl rfl rfl
     refine x_store w13 (xv := Vp b9 0) (yv := .agg #[Vi x5.1, Vi x5.2.1, Vi x5.2.2.1, Vi x5.2.2.2]) rfl rfl rfl rfl hr13 (⟨.inr (he13.sub (fun x hx => by simp only [List.mem_singleton] at hx; subst hx; exact newmo_mem hnb9 rfl)), ?_⟩)
     replace hb11 := he13.box hb11 (hms.apart 0 1 rfl rfl rfl _ mem1)
     replace hms := hms.ev he13
     replace hev := hev.then he13 (fun b hb => .inr (hfr.at 1 rfl b hb))
     replace hb9 := hb13
     obtain ⟨w14, hr14, hb14, he14⟩ := store_boxagg 0 [Vi x7.1, Vi x7.2.1, Vi x7.2.2.1, Vi x7.2.2.2] #[Vi x7.1, Vi x7.2.1, Vi x7.2.2.1, Vi x7.2.2.2] tagg76 hb11 rfl rfl rfl
     refine x_store w14 (xv := Vp b11 0) (yv := .agg #[Vi x7.1, Vi x7.2.1, Vi x7.2.2.1, Vi x7.2.2.2]) rfl rfl rfl rfl hr14 (inl1 ?_)
     replace hb9 := he14.box hb9 (hms.apart 1 0 rfl rfl rfl _ mem1)
     replace hms := hms.ev he14
     replace hev := hev.then he14 (fun b hb => .inr (hfr.at 0 rfl b hb))
     replace hb11 := hb14
     refine x_end rfl (t_stop ?_)
     have hpk := hms.pick [some 1, some 0, some 3] [[b9], [b11], M] rfl
     replace hms := hpk
     replace hfr := hfr.pick [some 1, some 0] [[b9], [b11]] rfl
     clear hpk
     exact k_then ⟨(x5.1, x5.2.1, x5.2.2.1, x5.2.2.2, x7.1, x7.2.1, x7.2.2.1, x7.2.2.2, b9, b11), ⟨rfl, rfl, rfl, rfl, trivial⟩, h, hev, hms, hfr, hb9, hb11⟩
   refine t_alt _ rfl ?_ ?_
   · refine x_alloc (z := .agg #[Vi 0, Vi 0, Vi 0, Vi 0]) rfl rfl (by kernel_rfl) (fun b9 w9 hq9 hb9 he9 hz9 => ?_)
     replace hb9 : w9.heap[b9]? = some (.cells #[Vi 0, Vi 0, Vi 0, Vi 0] 76 (0, 0)) := hb9
     refine ⟨.inr (he9.nil), ?_⟩
     have hnb9 : b9 = ((w2).drew).heap.size + 0 := by omega
     replace hnz : w9.heap.size = ((w2).drew).heap.size + 1 := by omega
     replace hms := hms.box he9 hq9 hb9
     replace hfr := hfr.box hev.size hq9
     replace hev := hev.ext he9
     refine x_alloc (z := .agg #[Vi 0, Vi 0, Vi 0, Vi 0]) rfl rfl (by kernel_rfl) (fun b11 w11 hq11 hb11 he11 hz11 => ?_)
     replace hb11 : w11.heap[b11]? = some (.cells #[Vi 0, Vi 0, Vi 0, Vi 0] 76 (0, 0)) := hb11
     refine ⟨.inr (he11.nil), ?_⟩
     have hnb11 : b11 = ((w2).drew).heap.size + 1 := by omega
     replace hnz : w11.heap.size = ((w2).drew).heap.size + 2 := by omega
     replace hb9 := he11.box hb9 nn
     replace hms := hms.box he11 hq11 hb11
     replace hfr := hfr.box hev.size hq11
     replace hev := hev.ext he11
     obtain ⟨w13, hr13, hb13, he13⟩ := store_boxagg 0 [Vi x5.1, Vi x5.2.1, Vi x5.2.2.1, Vi x5.2.2.2] #[Vi x5.1, Vi x5.2.1, Vi x5.2.2.1, Vi x5.2.2.2] tagg76 hb11 rfl rfl rfl
     refine x_store w13 (xv := Vp b11 0) (yv := .agg #[Vi x5.1, Vi x5.2.1, Vi x5.2.2.1, Vi x5.2.2.2]) rfl rfl rfl rfl hr13 (⟨.inr (he13.sub (fun x hx => by simp only [List.mem_singleton] at hx; subst hx; exact newmo_mem hnb11 rfl)), ?_⟩)
     replace hb9 := he13.box hb9 (hms.apart 1 0 rfl rfl rfl _ mem1)
     replace hms := hms.ev he13
     replace hev := hev.then he13 (fun b hb => .inr (hfr.at 0 rfl b hb))
     replace hb11 := hb13
     obtain ⟨w14, hr14, hb14, he14⟩ := store_boxagg 0 [Vi x7.1, Vi x7.2.1, Vi x7.2.2.1, Vi x7.2.2.2] #[Vi x7.1, Vi x7.2.1, Vi x7.2.2.1, Vi x7.2.2.2] tagg76 hb9 rfl rfl rfl
     refine x_store w14 (xv := Vp b9 0) (yv := .agg #[Vi x7.1, Vi x7.2.1, Vi x7.2.2.1, Vi x7.2.2.2]) rfl rfl rfl rfl hr14 (inl1 ?_)
     replace hb11 := he14.box hb11 (hms.apart 0 1 rfl rfl rfl _ mem1)
     replace hms := hms.ev he14
     replace hev := hev.then he14 (fun b hb => .inr (hfr.at 1 rfl b hb))
     replace hb9 := hb14
     refine x_end rfl (t_stop ?_)
     have hpk := hms.pick [some 0, some 1, some 3] [[b11], [b9], M] rfl
     replace hms := hpk
     replace hfr := hfr.pick [some 0, some 1] [[b11], [b9]] rfl
     clear hpk
     exact k_then ⟨(x5.1, x5.2.1, x5.2.2.1, x5.2.2.2, x7.1, x7.2.1, x7.2.2.1, x7.2.2.2, b11, b9), ⟨rfl, rfl, rfl, rfl, trivial⟩, h, hev, hms, hfr, hb11, hb9⟩
   exact t_none
 rintro ⟨e10_j4_0, e10_j4_1, e10_j4_2, e10_j4_3, e12_j4_0, e12_j4_1, e12_j4_2, e12_j4_3, b10_j4, b12_j4⟩ J wj4 ⟨h, hev, hms, hfr, hb10_j4, hb12_j4⟩
 refine c_seq (c_block (c_join (σ := Bool) (fun s => match s with | t19__s19_j9 => [(1, Vi p1), (2, Vi p2), (19, .bool t19__s19_j9)]) (fun s w' => match s with | t19__s19_j9 => job_relation_J9 p1 p2 t19__s19_j9 = some r ∧ Ev [] w w' ∧ MS w' [M] ∧ FR w.heap.size []) ?_ ?_))
 · refine c_plain (x_fieldAddr (xv := Vp b10_j4 0) (Vp b10_j4 0) rfl rfl rfl (reads_field tfld76_0 _ _) (x_load (xv := Vp b10_j4 0) (Vi e10_j4_0) rfl rfl rfl (reads_box tcell3 hb10_j4 nn 0 _ rfl) (x_fieldAddr (xv := Vp b12_j4 0) (Vp b12_j4 0) rfl rfl rfl (reads_field tfld76_0 _ _) (x_load (xv := Vp b12_j4 0) (Vi e12_j4_0) rfl rfl rfl (reads_box tcell3 hb12_j4 nn 0 _ rfl) (x_u 2 [(24, .bool (e10_j4_0 != e12_j4_0)), (25, .bool (e10_j4_0 != e12_j4_0))] ?_)))))
   refine x_if 25 (e10_j4_0 != e12_j4_0) rfl h (fun h => ?_) (fun h => ?_)
   · refine x_u 7 [(26, undef), (27, undef), (28, undef), (29, undef), (30, undef), (31, .bool true), (19, .bool true)] (x_end rfl ?_)
     have hpk := hms.pick [some 2] [M] rfl
     replace hms := hpk
     replace hfr := hfr.pick [] [] rfl
     clear hpk
     exact k_then ⟨true, ⟨rfl, rfl, rfl, trivial⟩, h, hev, hms, hfr⟩
   refine x_fieldAddr (xv := Vp b10_j4 0) (Vp b10_j4 1) rfl rfl rfl (reads_field tfld76_1 _ _) (x_load (xv := Vp b10_j4 1) (Vi e10_j4_1) rfl rfl rfl (reads_box tcell3 hb10_j4 nn 1 _ rfl) (x_fieldAddr (xv := Vp b12_j4 0) (Vp b12_j4 1) rfl rfl rfl (reads_field tfld76_1 _ _) (x_load (xv := Vp b12_j4 1) (Vi e12_j4_1) rfl rfl rfl (reads_box tcell3 hb12_j4 nn 1 _ rfl) (x_u 3 [(30, .bool (decide (e10_j4_1 ≥ e12_j4_1))), (31, .bool (decide (e10_j4_1 ≥ e12_j4_1))), (19, .bool (decide (e10_j4_1 ≥ e12_j4_1)))] (x_end rfl ?_)))))
   have hpk := hms.pick [some 2] [M] rfl
   replace hms := hpk
   replace hfr := hfr.pick [] [] rfl
   clear hpk
   exact k_then ⟨decide (e10_j4_1 ≥ e12_j4_1), ⟨rfl, rfl, rfl, trivial⟩, h, hev, hms, hfr⟩
 rintro t19__s19_j9 J wj9 ⟨h, hev, hms, hfr⟩
 refine c_if t19__s19_j9 rfl h (fun h => ?_) (fun h => ?_)
 · refine c_sp (x_u 1 [(6, Vi 0)] (x_ek (c_nm [(6, Vi 0)] (fun J => ?_))))
   refine c_ret (k_block_ret (k_then_ret (r_ret (r_vals [Vi 0] ⟨rfl, trivial⟩ ?_))))
   obtain rfl := some_inj h
   exact ⟨rfl, hev⟩
 refine c_sp (x_u 4 [(33, Vi p2), (34, Vi p1), (35, .bool (decide (p2 < p1))), (32, .bool (decide (p2 < p1)))] (x_ek (c_nm [(32, .bool (decide (p2 < p1)))] (fun J => ?_))))
 refine c_if (decide (p2 < p1)) rfl h (fun h => ?_) (fun h => ?_)
 · refine c_sp (x_u 1 [(6, Vi 2)] (x_ek (c_ret (k_block_ret (k_then_ret ?_)))))
   refine r_ret (r_vals [Vi 2] ⟨rfl, trivial⟩ ?_)
   obtain rfl := some_inj h
   exact ⟨rfl, hev⟩
 refine c_skip (k_block (k_then (c_sp (x_u 1 [(6, Vi 1)] (x_ek ?_)))))
 refine c_ret (r_ret (r_vals [Vi 1] ⟨rfl, trivial⟩ ?_))
 obtain rfl := some_inj h
 exact ⟨rfl, hev⟩
def job_Relation (p0_0 : List (Int × Int × Int × Int)) (p0_1 : Int) (p1 : Int) (p2 : Int) : Option (Int × Int) :=
((job_Valid p0_0 p0_1).bind fun x5 =>
(if (x5 != 0) = true then
some (0, x5)
else
((job_in p1 0 (IntKind.i64.wrap (((p0_0).length : Int) - 1))).bind fun x8 =>
(if (!x8) = true then
some (0, 2)
else
((job_in p2 0 (IntKind.i64.wrap (((p0_0).length : Int) - 1))).bind fun x10 =>
(if (!x10) = true then
some (0, 2)
else
((job_relation p0_0 p0_1 p1 p2).bind fun x12 =>
some (x12, 0))))))))
theorem job_Relation_w (a_p0_0 : Option Addr) (c_p0_0 : Nat) (p0_0 : List (Int × Int × Int × Int)) (p0_1 : Int) (p1 : Int) (p2 : Int) (r : Int × Int) (w : World) (M : List Nat) (hms : MS w [M]) (hs_p0_0 : SlR (eIt4) w (fl [M]) a_p0_0 c_p0_0 p0_0) (h : job_Relation p0_0 p0_1 p1 p2 = some r) : CallVC Tryz.prog 91 [.agg #[Vl a_p0_0 p0_0 c_p0_0, Vi p0_1], Vi p1, Vi p2] w fun v w' => v = .tuple #[Vi r.1, Vi r.2] ∧ Ev [] w w' := by
 refine calls_vc hmx Tryz.func91 (by kernel_rfl) rfl (rs := [.tmp 6, .tmp 7]) rfl (by kernel_rfl) (args := [.agg #[Vl a_p0_0 p0_0 c_p0_0, Vi p0_1], Vi p1, Vi p2]) rfl ?_
 have hev : Ev [] w w := Ev.refl _ _
 refine c_sp (x_box (xv := .agg #[Vl a_p0_0 p0_0 c_p0_0, Vi p0_1]) rfl rfl rfl (fun b2 w2 hq2 hb2 he2 hz2 => ?_))
 replace hb2 : w2.heap[b2]? = some (.cells #[Vl a_p0_0 p0_0 c_p0_0, Vi p0_1] 50 (0, 0)) := hb2
 refine inl1 ?_
 have hst := Stp.box (ls := [M]) he2 hq2
 replace hs_p0_0 := hs_p0_0.step hst
 replace hms := hms.box he2 hq2 hb2
 replace hev := hev.ext he2
 refine x_u 2 [(6, Vi 0), (7, Vi 0)] (x_ek (c_seq (c_sp (x_load (xv := Vp b2 0) (.agg #[Vl a_p0_0 p0_0 c_p0_0, Vi p0_1]) rfl rfl rfl (reads_boxagg 0 [Vl a_p0_0 p0_0 c_p0_0, Vi p0_1] tagg50 hb2 nn rfl) ?_))))
 obtain ⟨x5, hx, h⟩ := bind_some h
 have hcall := job_Valid_w a_p0_0 c_p0_0 p0_0 p0_1 _ w2 (fl [[b2], M]) (MS.fold (P := []) hms) (hs_p0_0.sub fl1) hx
 refine x_call 46 #[] #[] [.agg #[Vl a_p0_0 p0_0 c_p0_0, Vi p0_1]] _ rfl rfl rfl rfl hcall ?_
 rintro v w6 ⟨rfl, he6⟩
 clear hcall hx
 refine inl1 ?_
 have hst := Stp.ext (ls := [[b2], M]) he6
 replace hs_p0_0 := hs_p0_0.step hst
 replace hb2 := he6.box hb2 nn
 replace hms := hms.ev he6
 replace hev := hev.ext he6
 refine x_u 1 [(8, Vi x5)] (x_ek (c_sp (x_u 2 [(11, Vi x5), (12, .bool (x5 != 0))] (x_ek (c_if (x5 != 0) rfl h (fun h => ?_) (fun h => ?_))))))
 · refine c_sp (x_u 3 [(13, Vi x5), (6, Vi 0), (7, Vi x5)] (x_ek (c_ret (k_then_ret (r_ret (r_vals [Vi 0, Vi x5] ⟨rfl, rfl, trivial⟩ ?_))))))
   obtain rfl := some_inj h
   exact ⟨rfl, hev⟩
 refine c_skip (k_then (c_seq (c_sp (x_u 1 [(14, Vi p1)] (x_fieldAddr (xv := Vp b2 0) (Vp b2 0) rfl rfl rfl (reads_field tfld50_0 _ _) ?_)))))
 refine x_load (xv := Vp b2 0) (Vl a_p0_0 p0_0 c_p0_0) rfl rfl rfl (reads_box tcell36 hb2 nn 0 _ rfl) (x_len (vs := [Vl a_p0_0 p0_0 c_p0_0]) (Vi ((p0_0).length : Int)) rfl rfl rfl (reads_len tsl36 _ _ _ _ _) (x_u 1 [(18, Vi (IntKind.i64.wrap (((p0_0).length : Int) - 1)))] ?_))
 obtain ⟨x8, hx, h⟩ := bind_some h
 have hcall := job_in_w p1 0 (IntKind.i64.wrap (((p0_0).length : Int) - 1)) _ w6 hx
 refine x_call 56 #[] #[] [Vi p1, Vi 0, Vi (IntKind.i64.wrap (((p0_0).length : Int) - 1))] _ rfl rfl rfl rfl hcall ?_
 rintro v w9 ⟨rfl, he9⟩
 clear hcall hx
 refine inl1 ?_
 have hst := Stp.ext (ls := [[b2], M]) he9
 replace hs_p0_0 := hs_p0_0.step hst
 replace hb2 := he9.box hb2 nn
 replace hms := hms.ev he9
 replace hev := hev.ext he9
 refine x_u 2 [(20, .bool (!x8)), (21, .bool (!x8))] (x_if 21 (!x8) rfl h (fun h => ?_) (fun h => ?_))
 · refine x_u 8 [(22, undef), (23, undef), (24, undef), (25, undef), (26, undef), (27, undef), (28, undef), (29, .bool true)] (x_ek (c_nm [(1, Vi p1), (2, Vi p2), (3, Vp b2 0), (29, .bool true)] (fun J => ?_)))
   refine c_true rfl (c_sp (x_u 2 [(6, Vi 0), (7, Vi 2)] (x_ek (c_ret (k_then_ret ?_)))))
   refine r_ret (r_vals [Vi 0, Vi 2] ⟨rfl, rfl, trivial⟩ ?_)
   obtain rfl := some_inj h
   exact ⟨rfl, hev⟩
 refine x_u 1 [(22, Vi p2)] (x_fieldAddr (xv := Vp b2 0) (Vp b2 0) rfl rfl rfl (reads_field tfld50_0 _ _) (x_load (xv := Vp b2 0) (Vl a_p0_0 p0_0 c_p0_0) rfl rfl rfl (reads_box tcell36 hb2 nn 0 _ rfl) (x_len (vs := [Vl a_p0_0 p0_0 c_p0_0]) (Vi ((p0_0).length : Int)) rfl rfl rfl (reads_len tsl36 _ _ _ _ _) (x_u 1 [(26, Vi (IntKind.i64.wrap (((p0_0).length : Int) - 1)))] ?_))))
 obtain ⟨x10, hx, h⟩ := bind_some h
 have hcall := job_in_w p2 0 (IntKind.i64.wrap (((p0_0).length : Int) - 1)) _ w9 hx
 refine x_call 56 #[] #[] [Vi p2, Vi 0, Vi (IntKind.i64.wrap (((p0_0).length : Int) - 1))] _ rfl rfl rfl rfl hcall ?_
 rintro v w11 ⟨rfl, he11⟩
 clear hcall hx
 refine inl1 ?_
 have hst := Stp.ext (ls := [[b2], M]) he11
 replace hs_p0_0 := hs_p0_0.step hst
 replace hb2 := he11.box hb2 nn
 replace hms := hms.ev he11
 replace hev := hev.ext he11
 refine x_u 2 [(28, .bool (!x10)), (29, .bool (!x10))] (x_ek (c_nm [(1, Vi p1), (2, Vi p2), (3, Vp b2 0), (29, .bool (!x10))] (fun J => ?_)))
 refine c_if (!x10) rfl h (fun h => ?_) (fun h => ?_)
 · refine c_sp (x_u 2 [(6, Vi 0), (7, Vi 2)] (x_ek (c_ret (k_then_ret (r_ret (r_vals [Vi 0, Vi 2] ⟨rfl, rfl, trivial⟩ ?_))))))
   obtain rfl := some_inj h
   exact ⟨rfl, hev⟩
 refine c_skip (k_then (c_sp (x_load (xv := Vp b2 0) (.agg #[Vl a_p0_0 p0_0 c_p0_0, Vi p0_1]) rfl rfl rfl (reads_boxagg 0 [Vl a_p0_0 p0_0 c_p0_0, Vi p0_1] tagg50 hb2 nn rfl) (x_u 2 [(31, Vi p1), (32, Vi p2)] ?_))))
 obtain ⟨x12, hx, h⟩ := bind_some h
 have hcall := job_relation_w a_p0_0 c_p0_0 p0_0 p0_1 p1 p2 _ w11 (fl [[b2], M]) (MS.fold (P := []) hms) (hs_p0_0.sub fl1) hx
 refine x_call 122 #[] #[] [.agg #[Vl a_p0_0 p0_0 c_p0_0, Vi p0_1], Vi p1, Vi p2] _ rfl rfl rfl rfl hcall ?_
 rintro v w13 ⟨rfl, he13⟩
 clear hcall hx
 refine inl1 ?_
 replace hev := hev.ext he13
 refine x_u 2 [(6, Vi x12), (7, Vi 0)] (x_ek (c_ret (r_ret (r_vals [Vi x12, Vi 0] ⟨rfl, rfl, trivial⟩ ?_))))
 obtain rfl := some_inj h
 exact ⟨rfl, hev⟩
end Go.Proofs.YtlejnkhaphlooaaGreat
