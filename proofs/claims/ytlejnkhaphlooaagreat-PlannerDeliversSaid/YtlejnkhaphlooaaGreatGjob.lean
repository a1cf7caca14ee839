
/- Walks, printed by program: each function returns what the partial function of the same name returns. Conditions: those of each theorem. -/
import Derived.Test.YtlejnkhaphlooaaGreatGT
set_option linter.unusedVariables false
set_option linter.unusedSimpArgs false
set_option maxRecDepth 4000
namespace Go.Proofs.YtlejnkhaphlooaaGreat
open Go Go.V Go.Proofs
def job_in (p0 : Int) (p1 : Int) (p2 : Int) : Option Bool :=
(if (decide (p0 ≥ p1)) = true then
some (decide (p0 ≤ p2))
else
some false)

theorem job_in_w (p0 : Int) (p1 : Int) (p2 : Int) (r : Bool) (w : World) (h : job_in p0 p1 p2 = some r) : CallVC Tryz.prog 56 [Vi p0, Vi p1, Vi p2] w fun v w' => v = .bool r ∧ Ev [] w w' := by
 refine calls_vc hmx Tryz.func56 (by kernel_rfl) rfl (rs := [.tmp 6]) rfl (by kernel_rfl) (args := [Vi p0, Vi p1, Vi p2]) rfl ?_
 have hev : Ev [] w w := Ev.refl _ _
 have hms : MS w [[]] := ⟨List.pairwise_singleton _ _, fun l hl b hb => by simp only [List.mem_singleton] at hl; subst hl; cases hb⟩
 refine c_sp (x_u 1 [(6, .bool false)] (x_ek (c_sp (x_u 4 [(7, Vi p0), (8, Vi p1), (9, .bool (decide (p0 ≥ p1))), (10, .bool (decide (p0 ≥ p1)))] (x_if 10 (decide (p0 ≥ p1)) rfl h (fun h => ?_) (fun h => ?_))))))
 · refine x_u 5 [(11, Vi p0), (12, Vi p2), (13, .bool (decide (p0 ≤ p2))), (14, .bool (decide (p0 ≤ p2))), (6, .bool (decide (p0 ≤ p2)))] (x_ek (c_ret (r_ret (r_vals [.bool (decide (p0 ≤ p2))] ⟨rfl, trivial⟩ ?_))))
   obtain rfl := some_inj h
   exact ⟨rfl, hev⟩
 refine x_u 5 [(11, undef), (12, undef), (13, undef), (14, .bool false), (6, .bool false)] (x_ek (c_ret (r_ret (r_vals [.bool false] ⟨rfl, trivial⟩ ?_))))
 obtain rfl := some_inj h
 exact ⟨rfl, hev⟩

def job_Valid_L8 (p0_0 : List (Int × Int × Int × Int)) (s : Int) : Option (Step Int (Int ⊕ Unit)) :=
match s with
| t16__s16_l8 =>
(if (decide (t16__s16_l8 < ((p0_0).length : Int))) = true then
((idx p0_0 t16__s16_l8).bind fun x10 =>
((job_in x10.1 0 15).bind fun x16 =>
(if (!x16) = true then
some (.done (.inl 2))
else
((job_in x10.2.1 0 31).bind fun x18 =>
(if (!x18) = true then
some (.done (.inl 2))
else
((job_in x10.2.2.1 0 12).bind fun x20 =>
(if (!x20) = true then
some (.done (.inl 2))
else
((job_in x10.2.2.2 1 400).bind fun x22 =>
(if (!x22) = true then
some (.done (.inl 2))
else
(if (decide (t16__s16_l8 > 0)) = true then
((idx p0_0 (IntKind.i64.wrap (t16__s16_l8 - 1))).bind fun x24 =>
(if (decide (x10.2.2.1 < x24.2.2.1)) = true then
some (.done (.inl 12))
else
some (.next (IntKind.i64.wrap (t16__s16_l8 + 1)))))
else
some (.next (IntKind.i64.wrap (t16__s16_l8 + 1)))))))))))))
else
some (.done (.inr ())))

def job_Valid (p0_0 : List (Int × Int × Int × Int)) (p0_1 : Int) : Option Int :=
(if (decide (((p0_0).length : Int) > 96)) = true then
some 3
else
((job_in p0_1 0 12).bind fun x6 =>
(if (!x6) = true then
some 2
else
((loop (job_Valid_L8 p0_0) 0).bind fun d => match d with
| (.inl t2__s2_x800) => some t2__s2_x800
| (.inr _) => some 0))))

theorem job_Valid_w (a_p0_0 : Option Addr) (c_p0_0 : Nat) (p0_0 : List (Int × Int × Int × Int)) (p0_1 : Int) (r : Int) (w : World) (M : List Nat) (hms : MS w [M]) (hs_p0_0 : SlR (eIt4) w (fl [M]) a_p0_0 c_p0_0 p0_0) (h : job_Valid p0_0 p0_1 = some r) : CallVC Tryz.prog 46 [.agg #[Vl a_p0_0 p0_0 c_p0_0, Vi p0_1]] w fun v w' => v = Vi r ∧ Ev [] w w' := by
 refine calls_vc hmx Tryz.func46 (by kernel_rfl) rfl (rs := [.tmp 2]) rfl (by kernel_rfl) (args := [.agg #[Vl a_p0_0 p0_0 c_p0_0, Vi p0_1]]) rfl ?_
 have hev : Ev [] w w := Ev.refl _ _
 have hfr : FR w.heap.size [] := FR.nil _
 refine c_sp (x_box (xv := .agg #[Vl a_p0_0 p0_0 c_p0_0, Vi p0_1]) rfl rfl rfl (fun b2 w2 hq2 hb2 he2 hz2 => ?_))
 replace hb2 : w2.heap[b2]? = some (.cells #[Vl a_p0_0 p0_0 c_p0_0, Vi p0_1] 50 (0, 0)) := hb2
 refine inl1 ?_
 have hst := Stp.box (ls := [M]) he2 hq2
 replace hs_p0_0 := hs_p0_0.step hst
 replace hms := hms.box he2 hq2 hb2
 replace hfr := hfr.box hev.size hq2
 replace hev := hev.ext he2
 refine x_u 1 [(2, Vi 0)] (x_ek (c_seq (c_sp (x_fieldAddr (xv := Vp b2 0) (Vp b2 0) rfl rfl rfl (reads_field tfld50_0 _ _) (x_load (xv := Vp b2 0) (Vl a_p0_0 p0_0 c_p0_0) rfl rfl rfl (reads_box tcell36 hb2 nn 0 _ rfl) ?_)))))
 refine x_len (vs := [Vl a_p0_0 p0_0 c_p0_0]) (Vi ((p0_0).length : Int)) rfl rfl rfl (reads_len tsl36 _ _ _ _ _) (x_u 1 [(8, .bool (decide (((p0_0).length : Int) > 96)))] (x_ek (c_if (decide (((p0_0).length : Int) > 96)) rfl h (fun h => ?_) (fun h => ?_))))
 · refine c_sp (x_u 1 [(2, Vi 3)] (x_ek (c_ret (k_then_ret (r_ret (r_vals [Vi 3] ⟨rfl, trivial⟩ ?_))))))
   obtain rfl := some_inj h
   exact ⟨rfl, hev⟩
 refine c_skip (k_then (c_seq (c_sp (x_fieldAddr (xv := Vp b2 0) (Vp b2 1) rfl rfl rfl (reads_field tfld50_1 _ _) (x_load (xv := Vp b2 1) (Vi p0_1) rfl rfl rfl (reads_box tcell3 hb2 nn 1 _ rfl) ?_)))))
 obtain ⟨x6, hx, h⟩ := bind_some h
 have hcall := job_in_w p0_1 0 12 _ w2 hx
 refine x_call 56 #[] #[] [Vi p0_1, Vi 0, Vi 12] _ rfl rfl rfl rfl hcall ?_
 rintro v w7 ⟨rfl, he7⟩
 clear hcall hx
 refine inl1 ?_
 have hst := Stp.ext (ls := [[b2], M]) he7
 replace hs_p0_0 := hs_p0_0.step hst
 replace hb2 := he7.box hb2 nn
 replace hms := hms.ev he7
 replace hev := hev.ext he7
 refine x_u 1 [(12, .bool (!x6))] (x_ek (c_if (!x6) rfl h (fun h => ?_) (fun h => ?_)))
 · refine c_sp (x_u 1 [(2, Vi 2)] (x_ek (c_ret (k_then_ret (r_ret (r_vals [Vi 2] ⟨rfl, trivial⟩ ?_))))))
   obtain rfl := some_inj h
   exact ⟨rfl, hev⟩
 refine c_skip (k_then (c_seq (c_sp (x_fieldAddr (xv := Vp b2 0) (Vp b2 0) rfl rfl rfl (reads_field tfld50_0 _ _) (x_load (xv := Vp b2 0) (Vl a_p0_0 p0_0 c_p0_0) rfl rfl rfl (reads_box tcell36 hb2 nn 0 _ rfl) ?_)))))
 refine x_len (vs := [Vl a_p0_0 p0_0 c_p0_0]) (Vi ((p0_0).length : Int)) rfl rfl rfl (reads_len tsl36 _ _ _ _ _) (x_u 1 [(16, Vi 0)] (x_ek (c_nm [(1, Vp b2 0), (14, Vl a_p0_0 p0_0 c_p0_0), (15, Vi ((p0_0).length : Int)), (16, Vi 0)] (fun J => ?_))))
 refine c_block ?_
 obtain ⟨d8, hd8, h8⟩ := bind_some h
 obtain ⟨m8, hd8⟩ := loop_some hd8
 refine c_loop (loop_rule hmx (σ := Nat × Int) (fun s => match s with | (_, t16__s16_l8) => [(1, Vp b2 0), (14, Vl a_p0_0 p0_0 c_p0_0), (15, Vi ((p0_0).length : Int)), (16, Vi t16__s16_l8)]) (fun s w' => match s with | (m, t16__s16_l8) => loopN (job_Valid_L8 p0_0) m t16__s16_l8 = some d8 ∧ Ev [] w w' ∧ MS w' [[b2], M] ∧ FR w.heap.size [[b2]] ∧ SlR (eIt4) w' (fl [[b2], M]) a_p0_0 c_p0_0 p0_0 ∧ w'.heap[b2]? = some (.cells #[Vl a_p0_0 p0_0 c_p0_0, Vi p0_1] 50 (0, 0))) (fun s => s.1) (m8, 0) ⟨rfl, rfl, rfl, rfl, trivial⟩ ⟨hd8, hev, hms, hfr, hs_p0_0, hb2⟩ ?_)
 rintro ⟨m8, t16__s16_l8⟩ J wl8 ⟨hn8, hev, hms, hfr, hs_p0_0, hb2⟩
 rcases m8 with _ | m8
 · exact (loopN_zero hn8).elim
 obtain ⟨t8, h, hn8⟩ := bind_some hn8
 refine c_sp (x_u 1 [(17, .bool (decide (t16__s16_l8 < ((p0_0).length : Int))))] (x_ek (c_nm [(1, Vp b2 0), (14, Vl a_p0_0 p0_0 c_p0_0), (15, Vi ((p0_0).length : Int)), (16, Vi t16__s16_l8), (17, .bool (decide (t16__s16_l8 < ((p0_0).length : Int))))] (fun J => ?_))))
 refine c_seq (c_if (decide (t16__s16_l8 < ((p0_0).length : Int))) rfl h (fun h => ?_) (fun h => ?_))
 · refine c_skip (k_then (c_seq (c_block (c_sp (x_u 1 [(18, Vi t16__s16_l8)] ?_)))))
   obtain ⟨x10, hx10, h⟩ := bind_some h
   obtain ⟨ad10, cs10, hr10, hc10, hR⟩ := reads_index (Mo := []) tsl36 hs_p0_0 hx10
   obtain ⟨_, _, rfl, rfl, ⟨_, _, rfl, rfl, ⟨_, _, rfl, rfl, rfl⟩⟩⟩ := hR
   refine x_indexAddr (xv := Vl a_p0_0 p0_0 c_p0_0) (yv := Vi t16__s16_l8) (.pointer (some ad10)) rfl rfl rfl rfl hr10 (x_load (xv := .pointer (some ad10)) (.agg #[Vi x10.1, Vi x10.2.1, Vi x10.2.2.1, Vi x10.2.2.2]) rfl rfl rfl (reads_agg tagg76 hc10 (fun _ h => by cases h)) ?_)
   refine x_alloc (z := .agg #[Vi 0, Vi 0, Vi 0, Vi 0]) rfl rfl (by kernel_rfl) (fun b12 w12 hq12 hb12 he12 hz12 => ?_)
   replace hb12 : w12.heap[b12]? = some (.cells #[Vi 0, Vi 0, Vi 0, Vi 0] 76 (0, 0)) := hb12
   refine inl1 ?_
   have hst := Stp.box (ls := [[b2], M]) he12 hq12
   replace hb2 := he12.box hb2 nn
   replace hs_p0_0 := hs_p0_0.step hst
   replace hms := hms.box he12 hq12 hb12
   replace hfr := hfr.box hev.size hq12
   replace hev := hev.ext he12
   refine x_u 1 [(3, Vi t16__s16_l8)] ?_
   obtain ⟨w14, hr14, hb14, he14⟩ := store_boxagg 0 [Vi x10.1, Vi x10.2.1, Vi x10.2.2.1, Vi x10.2.2.2] #[Vi x10.1, Vi x10.2.1, Vi x10.2.2.1, Vi x10.2.2.2] tagg76 hb12 rfl rfl rfl
   refine x_store w14 (xv := Vp b12 0) (yv := .agg #[Vi x10.1, Vi x10.2.1, Vi x10.2.2.1, Vi x10.2.2.2]) rfl rfl rfl rfl hr14 (inl1 ?_)
   have hst := Stp.ev' (ls := [[b12], [b2], M]) he14 (mem_flat 0 rfl)
   replace hb2 := he14.box hb2 (hms.apart 1 0 rfl rfl rfl _ mem1)
   replace hs_p0_0 := hs_p0_0.step hst
   replace hms := hms.ev he14
   replace hev := hev.then he14 (fun b hb => .inr (hfr.at 0 rfl b hb))
   replace hb12 := hb14
   refine x_ek (c_seq (c_sp (x_fieldAddr (xv := Vp b12 0) (Vp b12 0) rfl rfl rfl (reads_field tfld76_0 _ _) (x_load (xv := Vp b12 0) (Vi x10.1) rfl rfl rfl (reads_box tcell3 hb12 nn 0 _ rfl) ?_))))
   obtain ⟨x16, hx, h⟩ := bind_some h
   have hcall := job_in_w x10.1 0 15 _ w14 hx
   refine x_call 56 #[] #[] [Vi x10.1, Vi 0, Vi 15] _ rfl rfl rfl rfl hcall ?_
   rintro v w17 ⟨rfl, he17⟩
   clear hcall hx
   refine inl1 ?_
   have hst := Stp.ext (ls := [[b12], [b2], M]) he17
   replace hb2 := he17.box hb2 nn
   replace hs_p0_0 := hs_p0_0.step hst
   replace hb12 := he17.box hb12 nn
   replace hms := hms.ev he17
   replace hev := hev.ext he17
   refine x_u 2 [(24, .bool (!x16)), (25, .bool (!x16))] (x_if 25 (!x16) rfl h (fun h => ?_) (fun h => ?_))
   · refine x_u 17 [(26, undef), (27, undef), (28, undef), (29, undef), (30, .bool true), (31, .bool true), (32, undef), (33, undef), (34, undef), (35, undef), (36, .bool true), (37, .bool true), (38, undef), (39, undef), (40, undef), (41, undef), (42, .bool true)] (x_ek (c_nm [(1, Vp b2 0), (3, Vi t16__s16_l8), (4, Vp b12 0), (14, Vl a_p0_0 p0_0 c_p0_0), (15, Vi ((p0_0).length : Int)), (16, Vi t16__s16_l8), (42, .bool true)] (fun J => ?_)))
     refine c_true rfl (c_sp (x_u 1 [(2, Vi 2)] (x_ek (c_ret (k_then_ret ?_)))))
     refine k_block_ret (k_then_ret ?_)
     obtain rfl := some_inj h
     have hy := some_inj hn8
     subst hy
     replace h := h8
     refine k_then_ret (k_block_ret (k_then_ret (r_ret (r_vals [Vi 2] ⟨rfl, trivial⟩ ?_))))
     obtain rfl := some_inj h
     exact ⟨rfl, hev⟩
   refine x_fieldAddr (xv := Vp b12 0) (Vp b12 1) rfl rfl rfl (reads_field tfld76_1 _ _) (x_load (xv := Vp b12 1) (Vi x10.2.1) rfl rfl rfl (reads_box tcell3 hb12 nn 1 _ rfl) ?_)
   obtain ⟨x18, hx, h⟩ := bind_some h
   have hcall := job_in_w x10.2.1 0 31 _ w17 hx
   refine x_call 56 #[] #[] [Vi x10.2.1, Vi 0, Vi 31] _ rfl rfl rfl rfl hcall ?_
   rintro v w19 ⟨rfl, he19⟩
   clear hcall hx
   refine inl1 ?_
   have hst := Stp.ext (ls := [[b12], [b2], M]) he19
   replace hb2 := he19.box hb2 nn
   replace hs_p0_0 := hs_p0_0.step hst
   replace hb12 := he19.box hb12 nn
   replace hms := hms.ev he19
   replace hev := hev.ext he19
   refine x_u 3 [(29, .bool (!x18)), (30, .bool (!x18)), (31, .bool (!x18))] (x_if 31 (!x18) rfl h (fun h => ?_) (fun h => ?_))
   · refine x_u 11 [(32, undef), (33, undef), (34, undef), (35, undef), (36, .bool true), (37, .bool true), (38, undef), (39, undef), (40, undef), (41, undef), (42, .bool true)] (x_ek (c_nm [(1, Vp b2 0), (3, Vi t16__s16_l8), (4, Vp b12 0), (14, Vl a_p0_0 p0_0 c_p0_0), (15, Vi ((p0_0).length : Int)), (16, Vi t16__s16_l8), (42, .bool true)] (fun J => ?_)))
     refine c_true rfl (c_sp (x_u 1 [(2, Vi 2)] (x_ek (c_ret (k_then_ret ?_)))))
     refine k_block_ret (k_then_ret ?_)
     obtain rfl := some_inj h
     have hy := some_inj hn8
     subst hy
     replace h := h8
     refine k_then_ret (k_block_ret (k_then_ret (r_ret (r_vals [Vi 2] ⟨rfl, trivial⟩ ?_))))
     obtain rfl := some_inj h
     exact ⟨rfl, hev⟩
   refine x_fieldAddr (xv := Vp b12 0) (Vp b12 2) rfl rfl rfl (reads_field tfld76_2 _ _) (x_load (xv := Vp b12 2) (Vi x10.2.2.1) rfl rfl rfl (reads_box tcell3 hb12 nn 2 _ rfl) ?_)
   obtain ⟨x20, hx, h⟩ := bind_some h
   have hcall := job_in_w x10.2.2.1 0 12 _ w19 hx
   refine x_call 56 #[] #[] [Vi x10.2.2.1, Vi 0, Vi 12] _ rfl rfl rfl rfl hcall ?_
   rintro v w21 ⟨rfl, he21⟩
   clear hcall hx
   refine inl1 ?_
   have hst := Stp.ext (ls := [[b12], [b2], M]) he21
   replace hb2 := he21.box hb2 nn
   replace hs_p0_0 := hs_p0_0.step hst
   replace hb12 := he21.box hb12 nn
   replace hms := hms.ev he21
   replace hev := hev.ext he21
   refine x_u 3 [(35, .bool (!x20)), (36, .bool (!x20)), (37, .bool (!x20))] (x_if 37 (!x20) rfl h (fun h => ?_) (fun h => ?_))
   · refine x_u 5 [(38, undef), (39, undef), (40, undef), (41, undef), (42, .bool true)] (x_ek (c_nm [(1, Vp b2 0), (3, Vi t16__s16_l8), (4, Vp b12 0), (14, Vl a_p0_0 p0_0 c_p0_0), (15, Vi ((p0_0).length : Int)), (16, Vi t16__s16_l8), (42, .bool true)] (fun J => ?_)))
     refine c_true rfl (c_sp (x_u 1 [(2, Vi 2)] (x_ek (c_ret (k_then_ret ?_)))))
     refine k_block_ret (k_then_ret ?_)
     obtain rfl := some_inj h
     have hy := some_inj hn8
     subst hy
     replace h := h8
     refine k_then_ret (k_block_ret (k_then_ret (r_ret (r_vals [Vi 2] ⟨rfl, trivial⟩ ?_))))
     obtain rfl := some_inj h
     exact ⟨rfl, hev⟩
   refine x_fieldAddr (xv := Vp b12 0) (Vp b12 3) rfl rfl rfl (reads_field tfld76_3 _ _) (x_load (xv := Vp b12 3) (Vi x10.2.2.2) rfl rfl rfl (reads_box tcell3 hb12 nn 3 _ rfl) ?_)
   obtain ⟨x22, hx, h⟩ := bind_some h
   have hcall := job_in_w x10.2.2.2 1 400 _ w21 hx
   refine x_call 56 #[] #[] [Vi x10.2.2.2, Vi 1, Vi 400] _ rfl rfl rfl rfl hcall ?_
   rintro v w23 ⟨rfl, he23⟩
   clear hcall hx
   refine inl1 ?_
   have hst := Stp.ext (ls := [[b12], [b2], M]) he23
   replace hb2 := he23.box hb2 nn
   replace hs_p0_0 := hs_p0_0.step hst
   replace hb12 := he23.box hb12 nn
   replace hms := hms.ev he23
   replace hev := hev.ext he23
   refine x_u 2 [(41, .bool (!x22)), (42, .bool (!x22))] (x_ek (c_nm [(1, Vp b2 0), (3, Vi t16__s16_l8), (4, Vp b12 0), (14, Vl a_p0_0 p0_0 c_p0_0), (15, Vi ((p0_0).length : Int)), (16, Vi t16__s16_l8), (42, .bool (!x22))] (fun J => ?_)))
   refine c_if (!x22) rfl h (fun h => ?_) (fun h => ?_)
   · refine c_sp (x_u 1 [(2, Vi 2)] (x_ek (c_ret (k_then_ret (k_block_ret ?_)))))
     refine k_then_ret ?_
     obtain rfl := some_inj h
     have hy := some_inj hn8
     subst hy
     replace h := h8
     refine k_then_ret (k_block_ret (k_then_ret (r_ret (r_vals [Vi 2] ⟨rfl, trivial⟩ ?_))))
     obtain rfl := some_inj h
     exact ⟨rfl, hev⟩
   refine c_skip (k_then (c_seq (c_drawn [] [(0, false), (1, false), (2, false), (3, false), (4, false), (5, false), (6, false), (7, false), (8, false), (9, false), (10, false), (11, false), (12, false), (13, false)] _ (by kernel_rfl) rfl ?_)))
   have hst := Stp.ext (ls := [[b12], [b2], M]) (Ev.drew w23)
   replace hb2 := (Ev.drew w23).box hb2 nn
   replace hs_p0_0 := hs_p0_0.step hst
   replace hb12 := (Ev.drew w23).box hb12 nn
   replace hms := hms.ev (Ev.drew w23)
   replace hev := hev.ext (Ev.drew w23)
   refine x_u 3 [(43, Vi t16__s16_l8), (44, .bool (decide (t16__s16_l8 > 0))), (45, .bool (decide (t16__s16_l8 > 0)))] (x_if 45 (decide (t16__s16_l8 > 0)) rfl h (fun h => ?_) (fun h => ?_))
   · refine x_fieldAddr (xv := Vp b12 0) (Vp b12 2) rfl rfl rfl (reads_field tfld76_2 _ _) (x_load (xv := Vp b12 2) (Vi x10.2.2.1) rfl rfl rfl (reads_box tcell3 hb12 nn 2 _ rfl) (x_fieldAddr (xv := Vp b2 0) (Vp b2 0) rfl rfl rfl (reads_field tfld50_0 _ _) (x_load (xv := Vp b2 0) (Vl a_p0_0 p0_0 c_p0_0) rfl rfl rfl (reads_box tcell36 hb2 nn 0 _ rfl) (x_u 2 [(50, Vi t16__s16_l8), (51, Vi (IntKind.i64.wrap (t16__s16_l8 - 1)))] ?_))))
     obtain ⟨x24, hx24, h⟩ := bind_some h
     obtain ⟨ad24, cs24, hr24, hc24, hR⟩ := reads_index (Mo := []) tsl36 hs_p0_0 hx24
     obtain ⟨_, _, rfl, rfl, ⟨_, _, rfl, rfl, ⟨_, _, rfl, rfl, rfl⟩⟩⟩ := hR
     refine x_indexAddr (xv := Vl a_p0_0 p0_0 c_p0_0) (yv := Vi (IntKind.i64.wrap (t16__s16_l8 - 1))) (.pointer (some ad24)) rfl rfl rfl rfl hr24 (x_fieldAddr (xv := .pointer (some ad24)) (.pointer (some (Addr.add ad24 2))) rfl rfl rfl (reads_field tfld76_2 _ _) (x_load (xv := .pointer (some (Addr.add ad24 2))) (Vi x24.2.2.1) rfl rfl rfl (reads_cell tcell3 hc24 (fun _ h => by cases h) 2 _ rfl) ?_))
     refine x_u 2 [(55, .bool (decide (x10.2.2.1 < x24.2.2.1))), (56, .bool (decide (x10.2.2.1 < x24.2.2.1)))] (x_ek (c_nm [(1, Vp b2 0), (14, Vl a_p0_0 p0_0 c_p0_0), (15, Vi ((p0_0).length : Int)), (16, Vi t16__s16_l8), (56, .bool (decide (x10.2.2.1 < x24.2.2.1)))] (fun J => ?_)))
     refine c_if (decide (x10.2.2.1 < x24.2.2.1)) rfl h (fun h => ?_) (fun h => ?_)
     · refine c_sp (x_u 1 [(2, Vi 12)] (x_ek (c_ret (k_block_ret (k_then_ret ?_)))))
       obtain rfl := some_inj h
       have hy := some_inj hn8
       subst hy
       replace h := h8
       refine k_then_ret (k_block_ret (k_then_ret (r_ret (r_vals [Vi 12] ⟨rfl, trivial⟩ ?_))))
       obtain rfl := some_inj h
       exact ⟨rfl, hev⟩
     refine c_skip (k_block (k_then (c_plain (x_u 2 [(57, Vi (IntKind.i64.wrap (t16__s16_l8 + 1))), (16, Vi (IntKind.i64.wrap (t16__s16_l8 + 1)))] (x_end rfl ?_)))))
     obtain rfl := some_inj h
     have hpk : MS (w23).drew [[b2], M] := hms.pick [some 1, some 2] _ rfl
     have hsu := pick_sub (ls := [[b12], [b2], M]) [some 1, some 2] [[b2], M] rfl
     replace hs_p0_0 := hs_p0_0.sub hsu
     replace hms := hpk
     replace hfr := hfr.pick [some 1] [[b2]] rfl
     clear hpk hsu
     exact k_then ⟨(m8, IntKind.i64.wrap (t16__s16_l8 + 1)), ⟨rfl, rfl, rfl, rfl, trivial⟩, ⟨hn8, hev, hms, hfr, hs_p0_0, hb2⟩, Nat.lt_succ_self _⟩
   refine x_u 11 [(46, undef), (47, undef), (48, undef), (49, undef), (50, undef), (51, undef), (52, undef), (53, undef), (54, undef), (55, undef), (56, .bool false)] (x_ek (c_nm [(1, Vp b2 0), (14, Vl a_p0_0 p0_0 c_p0_0), (15, Vi ((p0_0).length : Int)), (16, Vi t16__s16_l8), (56, .bool false)] (fun J => ?_)))
   refine c_false rfl (c_skip (k_block (k_then (c_plain (x_u 2 [(57, Vi (IntKind.i64.wrap (t16__s16_l8 + 1))), (16, Vi (IntKind.i64.wrap (t16__s16_l8 + 1)))] ?_)))))
   refine x_end rfl ?_
   obtain rfl := some_inj h
   have hpk : MS (w23).drew [[b2], M] := hms.pick [some 1, some 2] _ rfl
   have hsu := pick_sub (ls := [[b12], [b2], M]) [some 1, some 2] [[b2], M] rfl
   replace hs_p0_0 := hs_p0_0.sub hsu
   replace hms := hpk
   replace hfr := hfr.pick [some 1] [[b2]] rfl
   clear hpk hsu
   exact k_then ⟨(m8, IntKind.i64.wrap (t16__s16_l8 + 1)), ⟨rfl, rfl, rfl, rfl, trivial⟩, ⟨hn8, hev, hms, hfr, hs_p0_0, hb2⟩, Nat.lt_succ_self _⟩
 refine c_exit (k_then_exit ?_)
 obtain rfl := some_inj h
 have hy := some_inj hn8
 subst hy
 replace h := h8
 refine k_then_exit (k_block_in (k_then (c_norm [] trivial (fun J => ?_))))
 refine c_sp (x_u 1 [(2, Vi 0)] (x_ek (c_ret (r_ret (r_vals [Vi 0] ⟨rfl, trivial⟩ ?_)))))
 obtain rfl := some_inj h
 exact ⟨rfl, hev⟩

def job_Sorted_L17 (p0_0 : List (Int × Int × Int × Int)) (t24__s24_l11 : Int) (x13 : List Int) (s : (List Bool) × Int × Int) : Option (Step ((List Bool) × Int × Int) (Unit ⊕ ((List Bool) × Int))) :=
match s with
| (d9_l17, n_s8_l17, t31__s31_l17) =>
(if (decide (t31__s31_l17 < ((x13).length : Int))) = true then
((idx x13 t31__s31_l17).bind fun x19 =>
((job_in x19 0 (IntKind.i64.wrap (((p0_0).length : Int) - 1))).bind fun x21 =>
(if (!x21) = true then
some (.done (.inl ()))
else
((idx d9_l17 x19).bind fun x23 =>
(if x23 = true then
some (.done (.inl ()))
else
((idx p0_0 x19).bind fun x25 =>
(if (x25.1 != t24__s24_l11) = true then
some (.done (.inl ()))
else
(if (decide (t31__s31_l17 > 0)) = true then
((idx p0_0 x19).bind fun x27 =>
((idx x13 (IntKind.i64.wrap (t31__s31_l17 - 1))).bind fun x29 =>
((idx p0_0 x29).bind fun x31 =>
(if (decide (x27.2.1 < x31.2.1)) = true then
some (.done (.inl ()))
else
((idx d9_l17 x19).bind fun x33 =>
some (.next ((d9_l17.set (Int.toNat x19) true), IntKind.i64.wrap (n_s8_l17 + 1), IntKind.i64.wrap (t31__s31_l17 + 1))))))))
else
((idx d9_l17 x19).bind fun x36 =>
some (.next ((d9_l17.set (Int.toNat x19) true), IntKind.i64.wrap (n_s8_l17 + 1), IntKind.i64.wrap (t31__s31_l17 + 1))))))))))))
else
some (.done (.inr (d9_l17, n_s8_l17))))

def job_Sorted_L11 (p0_0 : List (Int × Int × Int × Int)) (p1 : List (List Int)) (s : (List Bool) × Int × Int) : Option (Step ((List Bool) × Int × Int) (Unit ⊕ Int)) :=
match s with
| (d9_l11, n_s8_l11, t24__s24_l11) =>
(if (decide (t24__s24_l11 < ((p1).length : Int))) = true then
((idx p1 t24__s24_l11).bind fun x13 =>
((loop (job_Sorted_L17 p0_0 t24__s24_l11 x13) (d9_l11, n_s8_l11, 0)).bind fun d => match d with
| (.inl _) => some (.done (.inl ()))
| (.inr (d9_x1701, n_s8_x1701)) => some (.next (d9_x1701, n_s8_x1701, IntKind.i64.wrap (t24__s24_l11 + 1)))))
else
some (.done (.inr n_s8_l11)))

def job_Sorted (p0_0 : List (Int × Int × Int × Int)) (p0_1 : Int) (p1 : List (List Int)) : Option (Bool × Int) :=
((job_Valid p0_0 p0_1).bind fun x6 =>
(if (x6 != 0) = true then
some (false, x6)
else
(if (0 : Int) ≤ ((p0_0).length : Int) ∧ (((p0_0).length : Int) : Int) ≤ 4294967296 then
((loop (job_Sorted_L11 p0_0 p1) ((List.replicate (Int.toNat ((p0_0).length : Int)) false : List Bool), 0, 0)).bind fun d => match d with
| (.inl _) => some (false, 0)
| (.inr n_s8_x1101) => some (n_s8_x1101 == ((p0_0).length : Int), 0))
else none)))

theorem job_Sorted_w (a_p0_0 : Option Addr) (c_p0_0 : Nat) (p0_0 : List (Int × Int × Int × Int)) (p0_1 : Int) (a_p1 : Option Addr) (c_p1 : Nat) (p1 : List (List Int)) (r : Bool × Int) (w : World) (M : List Nat) (hms : MS w [M]) (hs_p0_0 : SlR (eIt4) w (fl [M]) a_p0_0 c_p0_0 p0_0) (hs_p1 : SlR (eSl (eInt .i64)) w (fl [M]) a_p1 c_p1 p1) (h : job_Sorted p0_0 p0_1 p1 = some r) : CallVC Tryz.prog 27 [.agg #[.slice a_p0_0 (p0_0).length c_p0_0, Vi p0_1], .slice a_p1 (p1).length c_p1] w fun v w' => v = .tuple #[.bool r.1, Vi r.2] ∧ Ev [] w w' := by
 refine calls_vc hmx Tryz.func27 (by kernel_rfl) rfl (rs := [.tmp 4, .tmp 5]) rfl (by kernel_rfl) (args := [.agg #[.slice a_p0_0 (p0_0).length c_p0_0, Vi p0_1], .slice a_p1 (p1).length c_p1]) rfl ?_
 have hev : Ev [] w w := Ev.refl _ _
 have hfr : FR w.heap.size [] := FR.nil _
 refine c_sp (x_box (xv := .agg #[.slice a_p0_0 (p0_0).length c_p0_0, Vi p0_1]) rfl rfl rfl (fun b3 w3 hq3 hb3 he3 hz3 => ?_))
 replace hb3 : w3.heap[b3]? = some (.cells #[.slice a_p0_0 (p0_0).length c_p0_0, Vi p0_1] 50 (0, 0)) := hb3
 refine inl1 ?_
 have hst := Stp.box (ls := [M]) he3 hq3
 replace hs_p0_0 := hs_p0_0.step hst
 replace hs_p1 := hs_p1.step hst
 replace hms := hms.box he3 hq3 hb3
 replace hfr := hfr.box hev.size hq3
 replace hev := hev.ext he3
 refine x_u 2 [(4, .bool false), (5, Vi 0)] (x_ek (c_seq (c_sp (x_load (xv := Vp b3 0) (.agg #[.slice a_p0_0 (p0_0).length c_p0_0, Vi p0_1]) rfl rfl rfl (reads_boxagg 0 [.slice a_p0_0 (p0_0).length c_p0_0, Vi p0_1] tagg50 hb3 nn rfl) ?_))))
 obtain ⟨x6, hx, h⟩ := bind_some h
 have hcall := job_Valid_w a_p0_0 c_p0_0 p0_0 p0_1 _ w3 (fl [[b3], M]) (MS.fold (P := []) hms) (hs_p0_0.sub fl1) hx
 refine x_call 46 #[] #[] [.agg #[.slice a_p0_0 (p0_0).length c_p0_0, Vi p0_1]] _ rfl rfl rfl rfl hcall ?_
 rintro v w7 ⟨rfl, he7⟩
 clear hcall hx
 refine inl1 ?_
 have hst := Stp.ext (ls := [[b3], M]) he7
 replace hs_p0_0 := hs_p0_0.step hst
 replace hs_p1 := hs_p1.step hst
 replace hb3 := he7.box hb3 nn
 replace hms := hms.ev he7
 replace hev := hev.ext he7
 refine x_u 1 [(6, Vi x6)] (x_ek (c_sp (x_u 2 [(15, Vi x6), (16, .bool (x6 != 0))] (x_ek (c_if (x6 != 0) rfl h (fun h => ?_) (fun h => ?_))))))
 · refine c_sp (x_u 3 [(17, Vi x6), (4, .bool false), (5, Vi x6)] (x_ek (c_ret (k_then_ret (r_ret (r_vals [.bool false, Vi x6] ⟨rfl, rfl, trivial⟩ ?_))))))
   obtain rfl := some_inj h
   exact ⟨rfl, hev⟩
 refine c_skip (k_then (c_sp (x_fieldAddr (xv := Vp b3 0) (Vp b3 0) rfl rfl rfl (reads_field tfld50_0 _ _) (x_load (xv := Vp b3 0) (.slice a_p0_0 (p0_0).length c_p0_0) rfl rfl rfl (reads_box tcell36 hb3 nn 0 _ rfl) (x_len (vs := [.slice a_p0_0 (p0_0).length c_p0_0]) (Vi ((p0_0).length : Int)) rfl rfl rfl (reads_len tsl36 _ _ _ _ _) ?_)))))
 have hg := guard_l h
 replace h := guard_r h
 obtain ⟨a8, c8, w8, hr8, he8, hn8, hw8⟩ := own_make (e := eBool) tel111 w7 ((p0_0).length : Int) hg.1 hg.2 false (fun _ _ => rfl)
 refine x_makeSlice _ w8 (xv := Vi ((p0_0).length : Int)) (yv := Vi ((p0_0).length : Int)) rfl rfl rfl rfl hr8 (inl1 ?_)
 have hst := Stp.push (ls := [[b3], M]) (l := blk a8) he8 (fun _ h => by cases h) (fun b hb => (hn8 b hb).1)
 replace hs_p0_0 := hs_p0_0.step hst
 replace hs_p1 := hs_p1.step hst
 replace hb3 := he8.box hb3 nn
 replace hms := hms.push he8 hn8
 replace hfr := hfr.push (fun b hb => Nat.le_trans hev.size (hn8 b hb).1)
 replace hev := hev.ext he8
 have ho8 := hw8 (fl [blk a8, [b3], M])
 clear hw8
 refine x_u 1 [(7, .slice a8 ((List.replicate (Int.toNat ((p0_0).length : Int)) false : List Bool)).length c8)] (x_ek (c_nm [(1, .slice a_p1 (p1).length c_p1), (2, Vp b3 0), (7, .slice a8 ((List.replicate (Int.toNat ((p0_0).length : Int)) false : List Bool)).length c8)] (fun J => ?_)))
 refine c_sp (x_u 1 [(8, Vi 0)] (x_ek (c_seq (c_sp (x_u 1 [(22, .slice a_p1 (p1).length c_p1)] ?_)))))
 refine x_len (vs := [.slice a_p1 (p1).length c_p1]) (Vi ((p1).length : Int)) rfl rfl rfl (reads_len tsl57 _ _ _ _ _) (x_u 1 [(24, Vi 0)] (x_ek (c_block ?_)))
 have hpk := hms.pick [some 1, some 0, some 2] [[b3], blk a8, M] rfl
 have hsu := pick_sub (ls := [blk a8, [b3], M]) [some 1, some 0, some 2] [[b3], blk a8, M] rfl
 replace hs_p0_0 := hs_p0_0.sub hsu
 replace ho8 := ho8.sub hsu
 replace hs_p1 := hs_p1.sub hsu
 replace hms := hpk
 replace hfr := hfr.pick [some 1, some 0] [[b3], blk a8] rfl
 clear hpk hsu
 obtain ⟨d11, hd11, h11⟩ := bind_some h
 obtain ⟨m11, hd11⟩ := loop_some hd11
 refine c_loop (loop_rule hmx (σ := Nat × (List Bool) × Int × Int) (fun s => match s with | (_, d9_l11, n_s8_l11, t24__s24_l11) => [(2, Vp b3 0), (7, .slice a8 (d9_l11).length c8), (8, Vi n_s8_l11), (22, .slice a_p1 (p1).length c_p1), (23, Vi ((p1).length : Int)), (24, Vi t24__s24_l11)]) (fun s w' => match s with | (m, d9_l11, n_s8_l11, t24__s24_l11) => loopN (job_Sorted_L11 p0_0 p1) m (d9_l11, n_s8_l11, t24__s24_l11) = some d11 ∧ Ev [] w w' ∧ MS w' [[b3], blk a8, M] ∧ FR w.heap.size [[b3], blk a8] ∧ SlR (eIt4) w' (fl [[b3], blk a8, M]) a_p0_0 c_p0_0 p0_0 ∧ w'.heap[b3]? = some (.cells #[.slice a_p0_0 (p0_0).length c_p0_0, Vi p0_1] 50 (0, 0)) ∧ OwnS eBool 4 w' (fl [[b3], blk a8, M]) a8 c8 d9_l11 ∧ SlR (eSl (eInt .i64)) w' (fl [[b3], blk a8, M]) a_p1 c_p1 p1) (fun s => s.1) (m11, (List.replicate (Int.toNat ((p0_0).length : Int)) false : List Bool), 0, 0) ⟨rfl, rfl, rfl, rfl, rfl, rfl, trivial⟩ ⟨hd11, hev, hms, hfr, hs_p0_0, hb3, ho8, hs_p1⟩ ?_)
 rintro ⟨m11, d9_l11, n_s8_l11, t24__s24_l11⟩ J wl11 ⟨hn11, hev, hms, hfr, hs_p0_0, hb3, ho8, hs_p1⟩
 rcases m11 with _ | m11
 · exact (loopN_zero hn11).elim
 obtain ⟨t11, h, hn11⟩ := bind_some hn11
 refine c_sp (x_u 1 [(25, .bool (decide (t24__s24_l11 < ((p1).length : Int))))] (x_ek (c_nm [(2, Vp b3 0), (7, .slice a8 (d9_l11).length c8), (8, Vi n_s8_l11), (22, .slice a_p1 (p1).length c_p1), (23, Vi ((p1).length : Int)), (24, Vi t24__s24_l11), (25, .bool (decide (t24__s24_l11 < ((p1).length : Int))))] (fun J => ?_))))
 refine c_seq (c_if (decide (t24__s24_l11 < ((p1).length : Int))) rfl h (fun h => ?_) (fun h => ?_))
 · refine c_skip (k_then (c_seq (c_block (c_sp (x_u 1 [(26, Vi t24__s24_l11)] ?_)))))
   obtain ⟨x13, hx13, h⟩ := bind_some h
   obtain ⟨ad13, cs13, hr13, hc13, hR⟩ := reads_index (Mo := []) tsl57 hs_p1 hx13
   obtain ⟨a14, c14, rfl, hs14⟩ := hR
   refine x_indexAddr (xv := .slice a_p1 (p1).length c_p1) (yv := Vi t24__s24_l11) (.pointer (some ad13)) rfl rfl rfl rfl hr13 (x_load (xv := .pointer (some ad13)) (.slice a14 (x13).length c14) rfl rfl rfl (reads_cell0 tcell22 hc13 (fun _ h => by cases h)) ?_)
   refine x_u 2 [(9, Vi t24__s24_l11), (10, .slice a14 (x13).length c14)] (x_ek (c_sp (x_u 1 [(29, .slice a14 (x13).length c14)] (x_len (vs := [.slice a14 (x13).length c14]) (Vi ((x13).length : Int)) rfl rfl rfl (reads_len tsl22 _ _ _ _ _) (x_u 1 [(31, Vi 0)] ?_)))))
   refine x_ek (c_block ?_)
   obtain ⟨d17, hd17, h17⟩ := bind_some h
   obtain ⟨m17, hd17⟩ := loop_some hd17
   refine c_loop (loop_rule hmx (σ := Nat × (List Bool) × Int × Int) (fun s => match s with | (_, d9_l17, n_s8_l17, t31__s31_l17) => [(2, Vp b3 0), (7, .slice a8 (d9_l17).length c8), (8, Vi n_s8_l17), (9, Vi t24__s24_l11), (10, .slice a14 (x13).length c14), (22, .slice a_p1 (p1).length c_p1), (23, Vi ((p1).length : Int)), (24, Vi t24__s24_l11), (29, .slice a14 (x13).length c14), (30, Vi ((x13).length : Int)), (31, Vi t31__s31_l17)]) (fun s w' => match s with | (m, d9_l17, n_s8_l17, t31__s31_l17) => loopN (job_Sorted_L17 p0_0 t24__s24_l11 x13) m (d9_l17, n_s8_l17, t31__s31_l17) = some d17 ∧ Ev [] w w' ∧ MS w' [[b3], blk a8, M] ∧ FR w.heap.size [[b3], blk a8] ∧ SlR (eIt4) w' (fl [[b3], blk a8, M]) a_p0_0 c_p0_0 p0_0 ∧ w'.heap[b3]? = some (.cells #[.slice a_p0_0 (p0_0).length c_p0_0, Vi p0_1] 50 (0, 0)) ∧ OwnS eBool 4 w' (fl [[b3], blk a8, M]) a8 c8 d9_l17 ∧ SlR (eInt .i64) w' (fl [[b3], blk a8, M]) a14 c14 x13 ∧ SlR (eSl (eInt .i64)) w' (fl [[b3], blk a8, M]) a_p1 c_p1 p1) (fun s => s.1) (m17, d9_l11, n_s8_l11, 0) ⟨rfl, rfl, rfl, rfl, rfl, rfl, rfl, rfl, rfl, rfl, rfl, trivial⟩ ⟨hd17, hev, hms, hfr, hs_p0_0, hb3, ho8, hs14, hs_p1⟩ ?_)
   rintro ⟨m17, d9_l17, n_s8_l17, t31__s31_l17⟩ J wl17 ⟨hn17, hev, hms, hfr, hs_p0_0, hb3, ho8, hs14, hs_p1⟩
   rcases m17 with _ | m17
   · exact (loopN_zero hn17).elim
   obtain ⟨t17, h, hn17⟩ := bind_some hn17
   refine c_sp (x_u 1 [(32, .bool (decide (t31__s31_l17 < ((x13).length : Int))))] (x_ek (c_nm [(2, Vp b3 0), (7, .slice a8 (d9_l17).length c8), (8, Vi n_s8_l17), (9, Vi t24__s24_l11), (10, .slice a14 (x13).length c14), (22, .slice a_p1 (p1).length c_p1), (23, Vi ((p1).length : Int)), (24, Vi t24__s24_l11), (29, .slice a14 (x13).length c14), (30, Vi ((x13).length : Int)), (31, Vi t31__s31_l17), (32, .bool (decide (t31__s31_l17 < ((x13).length : Int))))] (fun J => ?_))))
   refine c_seq (c_if (decide (t31__s31_l17 < ((x13).length : Int))) rfl h (fun h => ?_) (fun h => ?_))
   · refine c_skip (k_then (c_seq (c_block (c_sp (x_u 1 [(33, Vi t31__s31_l17)] ?_)))))
     obtain ⟨x19, hx19, h⟩ := bind_some h
     obtain ⟨ad19, cs19, hr19, hc19, hR⟩ := reads_index (Mo := []) tsl22 hs14 hx19
     obtain rfl := hR
     refine x_indexAddr (xv := .slice a14 (x13).length c14) (yv := Vi t31__s31_l17) (.pointer (some ad19)) rfl rfl rfl rfl hr19 (x_load (xv := .pointer (some ad19)) (Vi x19) rfl rfl rfl (reads_cell0 tcell3 hc19 (fun _ h => by cases h)) ?_)
     refine x_u 2 [(11, Vi t31__s31_l17), (12, Vi x19)] (x_ek (c_seq (c_seq (c_drawn [] [(0, false), (1, false), (2, false), (3, false), (4, false), (5, true), (6, false), (7, false), (8, false), (9, false), (10, false), (11, false), (12, false), (13, false), (14, false), (15, false), (16, false), (17, false), (18, false), (19, false), (20, false), (21, false), (22, false), (23, false), (24, false), (25, false), (26, false), (27, false), (28, false), (29, false), (30, false), (31, false), (32, false), (33, false), (34, false), (35, false), (36, false), (37, false), (38, false), (39, false), (40, false), (41, false), (42, false), (43, false), (44, false), (45, false)] _ (by kernel_rfl) rfl ?_))))
     have hst := Stp.ext (ls := [[b3], blk a8, M]) (Ev.drew wl17)
     replace hb3 := (Ev.drew wl17).box hb3 nn
     replace hs_p0_0 := hs_p0_0.step hst
     replace ho8 := ho8.step hst (Ev.drew wl17) nn2
     replace hs14 := hs14.step hst
     replace hs_p1 := hs_p1.step hst
     replace hms := hms.ev (Ev.drew wl17)
     replace hev := hev.ext (Ev.drew wl17)
     refine x_u 1 [(36, Vi x19)] (x_fieldAddr (xv := Vp b3 0) (Vp b3 0) rfl rfl rfl (reads_field tfld50_0 _ _) (x_load (xv := Vp b3 0) (.slice a_p0_0 (p0_0).length c_p0_0) rfl rfl rfl (reads_box tcell36 hb3 nn 0 _ rfl) (x_len (vs := [.slice a_p0_0 (p0_0).length c_p0_0]) (Vi ((p0_0).length : Int)) rfl rfl rfl (reads_len tsl36 _ _ _ _ _) (x_u 1 [(40, Vi (IntKind.i64.wrap (((p0_0).length : Int) - 1)))] ?_))))
     obtain ⟨x21, hx, h⟩ := bind_some h
     have hcall := job_in_w x19 0 (IntKind.i64.wrap (((p0_0).length : Int) - 1)) _ (wl17).drew hx
     refine x_call 56 #[] #[] [Vi x19, Vi 0, Vi (IntKind.i64.wrap (((p0_0).length : Int) - 1))] _ rfl rfl rfl rfl hcall ?_
     rintro v w22 ⟨rfl, he22⟩
     clear hcall hx
     refine inl1 ?_
     have hst := Stp.ext (ls := [[b3], blk a8, M]) he22
     replace hb3 := he22.box hb3 nn
     replace hs_p0_0 := hs_p0_0.step hst
     replace ho8 := ho8.step hst he22 nn2
     replace hs14 := hs14.step hst
     replace hs_p1 := hs_p1.step hst
     replace hms := hms.ev he22
     replace hev := hev.ext he22
     refine x_u 2 [(42, .bool (!x21)), (43, .bool (!x21))] (x_if 43 (!x21) rfl h (fun h => ?_) (fun h => ?_))
     · refine x_u 38 [(44, undef), (45, undef), (46, undef), (47, undef), (48, .bool true), (49, .bool true), (50, undef), (51, undef), (52, undef), (53, undef), (54, undef), (55, undef), (56, undef), (57, undef), (58, .bool true), (59, .bool true), (60, undef), (61, undef), (62, undef), (63, undef), (64, undef), (65, undef), (66, undef), (67, undef), (68, undef), (69, undef), (70, undef), (71, undef), (72, undef), (73, undef), (74, undef), (75, undef), (76, undef), (77, undef), (78, undef), (79, undef), (80, undef), (81, .bool true)] (x_ek (c_nm [(2, Vp b3 0), (7, .slice a8 (d9_l17).length c8), (8, Vi n_s8_l17), (9, Vi t24__s24_l11), (10, .slice a14 (x13).length c14), (12, Vi x19), (22, .slice a_p1 (p1).length c_p1), (23, Vi ((p1).length : Int)), (24, Vi t24__s24_l11), (29, .slice a14 (x13).length c14), (30, Vi ((x13).length : Int)), (31, Vi t31__s31_l17), (81, .bool true)] (fun J => ?_)))
       refine c_true rfl (c_sp (x_u 2 [(4, .bool false), (5, Vi 0)] (x_ek (c_ret (k_then_ret ?_)))))
       refine k_block_ret (k_then_ret ?_)
       obtain rfl := some_inj h
       have hy := some_inj hn17
       subst hy
       replace h := h17
       refine k_then_ret (k_block_ret (k_block_ret (k_then_ret ?_)))
       obtain rfl := some_inj h
       have hy := some_inj hn11
       subst hy
       replace h := h11
       refine k_then_ret (k_block_ret (k_then_ret (r_ret (r_vals [.bool false, Vi 0] ⟨rfl, rfl, trivial⟩ ?_))))
       obtain rfl := some_inj h
       exact ⟨rfl, hev⟩
     refine x_u 2 [(44, .slice a8 (d9_l17).length c8), (45, Vi x19)] ?_
     obtain ⟨x23, hx23, h⟩ := bind_some h
     obtain ⟨g23, cs23, ha23, hr23, hc23, hR⟩ := own_index (Mo := []) tsl111 ho8 hx23
     obtain rfl := hR
     refine x_indexAddr (xv := .slice a8 (d9_l17).length c8) (yv := Vi x19) (.pointer (some ⟨g23, (Int.toNat x19) * eBool.n, none⟩)) rfl rfl rfl rfl hr23 (x_load (xv := .pointer (some ⟨g23, (Int.toNat x19) * eBool.n, none⟩)) (.bool x23) rfl rfl rfl (reads_cell0 tcell4 hc23 (fun _ h => by cases h)) ?_)
     refine x_u 2 [(48, .bool x23), (49, .bool x23)] (x_if 49 x23 rfl h (fun h => ?_) (fun h => ?_))
     · refine x_u 32 [(50, undef), (51, undef), (52, undef), (53, undef), (54, undef), (55, undef), (56, undef), (57, undef), (58, .bool true), (59, .bool true), (60, undef), (61, undef), (62, undef), (63, undef), (64, undef), (65, undef), (66, undef), (67, undef), (68, undef), (69, undef), (70, undef), (71, undef), (72, undef), (73, undef), (74, undef), (75, undef), (76, undef), (77, undef), (78, undef), (79, undef), (80, undef), (81, .bool true)] (x_ek (c_nm [(2, Vp b3 0), (7, .slice a8 (d9_l17).length c8), (8, Vi n_s8_l17), (9, Vi t24__s24_l11), (10, .slice a14 (x13).length c14), (12, Vi x19), (22, .slice a_p1 (p1).length c_p1), (23, Vi ((p1).length : Int)), (24, Vi t24__s24_l11), (29, .slice a14 (x13).length c14), (30, Vi ((x13).length : Int)), (31, Vi t31__s31_l17), (81, .bool true)] (fun J => ?_)))
       refine c_true rfl (c_sp (x_u 2 [(4, .bool false), (5, Vi 0)] (x_ek (c_ret (k_then_ret ?_)))))
       refine k_block_ret (k_then_ret ?_)
       obtain rfl := some_inj h
       have hy := some_inj hn17
       subst hy
       replace h := h17
       refine k_then_ret (k_block_ret (k_block_ret (k_then_ret ?_)))
       obtain rfl := some_inj h
       have hy := some_inj hn11
       subst hy
       replace h := h11
       refine k_then_ret (k_block_ret (k_then_ret (r_ret (r_vals [.bool false, Vi 0] ⟨rfl, rfl, trivial⟩ ?_))))
       obtain rfl := some_inj h
       exact ⟨rfl, hev⟩
     refine x_fieldAddr (xv := Vp b3 0) (Vp b3 0) rfl rfl rfl (reads_field tfld50_0 _ _) (x_load (xv := Vp b3 0) (.slice a_p0_0 (p0_0).length c_p0_0) rfl rfl rfl (reads_box tcell36 hb3 nn 0 _ rfl) (x_u 1 [(52, Vi x19)] ?_))
     obtain ⟨x25, hx25, h⟩ := bind_some h
     obtain ⟨ad25, cs25, hr25, hc25, hR⟩ := reads_index (Mo := []) tsl36 hs_p0_0 hx25
     obtain ⟨_, _, rfl, rfl, ⟨_, _, rfl, rfl, ⟨_, _, rfl, rfl, rfl⟩⟩⟩ := hR
     refine x_indexAddr (xv := .slice a_p0_0 (p0_0).length c_p0_0) (yv := Vi x19) (.pointer (some ad25)) rfl rfl rfl rfl hr25 (x_fieldAddr (xv := .pointer (some ad25)) (.pointer (some (Addr.add ad25 0))) rfl rfl rfl (reads_field tfld76_0 _ _) (x_load (xv := .pointer (some (Addr.add ad25 0))) (Vi x25.1) rfl rfl rfl (reads_cell tcell3 hc25 (fun _ h => by cases h) 0 _ rfl) ?_))
     refine x_u 4 [(56, Vi t24__s24_l11), (57, .bool (x25.1 != t24__s24_l11)), (58, .bool (x25.1 != t24__s24_l11)), (59, .bool (x25.1 != t24__s24_l11))] (x_if 59 (x25.1 != t24__s24_l11) rfl h (fun h => ?_) (fun h => ?_))
     · refine x_u 22 [(60, undef), (61, undef), (62, undef), (63, undef), (64, undef), (65, undef), (66, undef), (67, undef), (68, undef), (69, undef), (70, undef), (71, undef), (72, undef), (73, undef), (74, undef), (75, undef), (76, undef), (77, undef), (78, undef), (79, undef), (80, undef), (81, .bool true)] (x_ek (c_nm [(2, Vp b3 0), (7, .slice a8 (d9_l17).length c8), (8, Vi n_s8_l17), (9, Vi t24__s24_l11), (10, .slice a14 (x13).length c14), (12, Vi x19), (22, .slice a_p1 (p1).length c_p1), (23, Vi ((p1).length : Int)), (24, Vi t24__s24_l11), (29, .slice a14 (x13).length c14), (30, Vi ((x13).length : Int)), (31, Vi t31__s31_l17), (81, .bool true)] (fun J => ?_)))
       refine c_true rfl (c_sp (x_u 2 [(4, .bool false), (5, Vi 0)] (x_ek (c_ret (k_then_ret ?_)))))
       refine k_block_ret (k_then_ret ?_)
       obtain rfl := some_inj h
       have hy := some_inj hn17
       subst hy
       replace h := h17
       refine k_then_ret (k_block_ret (k_block_ret (k_then_ret ?_)))
       obtain rfl := some_inj h
       have hy := some_inj hn11
       subst hy
       replace h := h11
       refine k_then_ret (k_block_ret (k_then_ret (r_ret (r_vals [.bool false, Vi 0] ⟨rfl, rfl, trivial⟩ ?_))))
       obtain rfl := some_inj h
       exact ⟨rfl, hev⟩
     refine x_u 3 [(60, Vi t31__s31_l17), (61, .bool (decide (t31__s31_l17 > 0))), (62, .bool (decide (t31__s31_l17 > 0)))] (x_if 62 (decide (t31__s31_l17 > 0)) rfl h (fun h => ?_) (fun h => ?_))
     · refine x_fieldAddr (xv := Vp b3 0) (Vp b3 0) rfl rfl rfl (reads_field tfld50_0 _ _) (x_load (xv := Vp b3 0) (.slice a_p0_0 (p0_0).length c_p0_0) rfl rfl rfl (reads_box tcell36 hb3 nn 0 _ rfl) (x_u 1 [(65, Vi x19)] ?_))
       obtain ⟨x27, hx27, h⟩ := bind_some h
       obtain ⟨ad27, cs27, hr27, hc27, hR⟩ := reads_index (Mo := []) tsl36 hs_p0_0 hx27
       obtain ⟨_, _, rfl, rfl, ⟨_, _, rfl, rfl, ⟨_, _, rfl, rfl, rfl⟩⟩⟩ := hR
       refine x_indexAddr (xv := .slice a_p0_0 (p0_0).length c_p0_0) (yv := Vi x19) (.pointer (some ad27)) rfl rfl rfl rfl hr27 (x_fieldAddr (xv := .pointer (some ad27)) (.pointer (some (Addr.add ad27 1))) rfl rfl rfl (reads_field tfld76_1 _ _) (x_load (xv := .pointer (some (Addr.add ad27 1))) (Vi x27.2.1) rfl rfl rfl (reads_cell tcell3 hc27 (fun _ h => by cases h) 1 _ rfl) ?_))
       refine x_fieldAddr (xv := Vp b3 0) (Vp b3 0) rfl rfl rfl (reads_field tfld50_0 _ _) (x_load (xv := Vp b3 0) (.slice a_p0_0 (p0_0).length c_p0_0) rfl rfl rfl (reads_box tcell36 hb3 nn 0 _ rfl) (x_u 3 [(71, .slice a14 (x13).length c14), (72, Vi t31__s31_l17), (73, Vi (IntKind.i64.wrap (t31__s31_l17 - 1)))] ?_))
       obtain ⟨x29, hx29, h⟩ := bind_some h
       obtain ⟨ad29, cs29, hr29, hc29, hR⟩ := reads_index (Mo := []) tsl22 hs14 hx29
       obtain rfl := hR
       refine x_indexAddr (xv := .slice a14 (x13).length c14) (yv := Vi (IntKind.i64.wrap (t31__s31_l17 - 1))) (.pointer (some ad29)) rfl rfl rfl rfl hr29 (x_load (xv := .pointer (some ad29)) (Vi x29) rfl rfl rfl (reads_cell0 tcell3 hc29 (fun _ h => by cases h)) ?_)
       obtain ⟨x31, hx31, h⟩ := bind_some h
       obtain ⟨ad31, cs31, hr31, hc31, hR⟩ := reads_index (Mo := []) tsl36 hs_p0_0 hx31
       obtain ⟨_, _, rfl, rfl, ⟨_, _, rfl, rfl, ⟨_, _, rfl, rfl, rfl⟩⟩⟩ := hR
       refine x_indexAddr (xv := .slice a_p0_0 (p0_0).length c_p0_0) (yv := Vi x29) (.pointer (some ad31)) rfl rfl rfl rfl hr31 (x_fieldAddr (xv := .pointer (some ad31)) (.pointer (some (Addr.add ad31 1))) rfl rfl rfl (reads_field tfld76_1 _ _) (x_load (xv := .pointer (some (Addr.add ad31 1))) (Vi x31.2.1) rfl rfl rfl (reads_cell tcell3 hc31 (fun _ h => by cases h) 1 _ rfl) ?_))
       refine x_u 3 [(79, .bool (decide (x27.2.1 < x31.2.1))), (80, .bool (decide (x27.2.1 < x31.2.1))), (81, .bool (decide (x27.2.1 < x31.2.1)))] (x_ek (c_nm [(2, Vp b3 0), (7, .slice a8 (d9_l17).length c8), (8, Vi n_s8_l17), (9, Vi t24__s24_l11), (10, .slice a14 (x13).length c14), (12, Vi x19), (22, .slice a_p1 (p1).length c_p1), (23, Vi ((p1).length : Int)), (24, Vi t24__s24_l11), (29, .slice a14 (x13).length c14), (30, Vi ((x13).length : Int)), (31, Vi t31__s31_l17), (81, .bool (decide (x27.2.1 < x31.2.1)))] (fun J => ?_)))
       refine c_if (decide (x27.2.1 < x31.2.1)) rfl h (fun h => ?_) (fun h => ?_)
       · refine c_sp (x_u 2 [(4, .bool false), (5, Vi 0)] (x_ek (c_ret (k_then_ret (k_block_ret ?_)))))
         refine k_then_ret ?_
         obtain rfl := some_inj h
         have hy := some_inj hn17
         subst hy
         replace h := h17
         refine k_then_ret (k_block_ret (k_block_ret (k_then_ret ?_)))
         obtain rfl := some_inj h
         have hy := some_inj hn11
         subst hy
         replace h := h11
         refine k_then_ret (k_block_ret (k_then_ret (r_ret (r_vals [.bool false, Vi 0] ⟨rfl, rfl, trivial⟩ ?_))))
         obtain rfl := some_inj h
         exact ⟨rfl, hev⟩
       refine c_skip (k_then (c_sp (x_u 2 [(82, .slice a8 (d9_l17).length c8), (83, Vi x19)] ?_)))
       obtain ⟨x33, hx33, h⟩ := bind_some h
       obtain ⟨g33, cs33, ha33, hr33, hc33, hR⟩ := own_index (Mo := []) tsl111 ho8 hx33
       obtain rfl := hR
       refine x_indexAddr (xv := .slice a8 (d9_l17).length c8) (yv := Vi x19) (.pointer (some ⟨g33, (Int.toNat x19) * eBool.n, none⟩)) rfl rfl rfl rfl hr33 ?_
       obtain ⟨w35, hr35, he35, ho35⟩ := own_storeE ha33 (y := true) 0 (.bool true) tcell4 ho8 (mem_flat 1 rfl) hx33 rfl rfl (fun _ _ _ hR => set_bool hR)
       refine x_store w35 (xv := .pointer (some ⟨g33, (Int.toNat x19) * eBool.n, none⟩)) (yv := .bool true) rfl rfl rfl rfl hr35 (inl1 ?_)
       have hst := Stp.ev' (ls := [[b3], blk a8, M]) he35 (mem_flat 1 rfl)
       replace hb3 := he35.box hb3 (hms.apart 0 1 rfl rfl rfl _ mem1)
       replace hs_p0_0 := hs_p0_0.step hst
       replace hs14 := hs14.step hst
       replace hs_p1 := hs_p1.step hst
       replace hms := hms.ev he35
       replace hev := hev.then he35 (fun b hb => .inr (hfr.at 1 rfl b hb))
       replace ho8 := ho35
       have hsl : (Value.slice a8 (d9_l17).length c8) = (Value.slice a8 ((d9_l17.set (Int.toNat x19) true)).length c8) := by first | (rw [List.length_set]; done) | simp only [List.length_set]
       try rw [hsl]
       clear hsl
       refine x_ek (c_plain (x_u 3 [(85, Vi n_s8_l17), (86, Vi (IntKind.i64.wrap (n_s8_l17 + 1))), (8, Vi (IntKind.i64.wrap (n_s8_l17 + 1)))] (x_end rfl (k_block (k_then ?_)))))
       refine c_plain (x_u 2 [(87, Vi (IntKind.i64.wrap (t31__s31_l17 + 1))), (31, Vi (IntKind.i64.wrap (t31__s31_l17 + 1)))] (x_end rfl ?_))
       obtain rfl := some_inj h
       exact k_then ⟨(m17, (d9_l17.set (Int.toNat x19) true), IntKind.i64.wrap (n_s8_l17 + 1), IntKind.i64.wrap (t31__s31_l17 + 1)), ⟨rfl, rfl, rfl, rfl, rfl, rfl, rfl, rfl, rfl, rfl, rfl, trivial⟩, ⟨hn17, hev, hms, hfr, hs_p0_0, hb3, ho8, hs14, hs_p1⟩, Nat.lt_succ_self _⟩
     refine x_u 19 [(63, undef), (64, undef), (65, undef), (66, undef), (67, undef), (68, undef), (69, undef), (70, undef), (71, undef), (72, undef), (73, undef), (74, undef), (75, undef), (76, undef), (77, undef), (78, undef), (79, undef), (80, .bool false), (81, .bool false)] (x_ek (c_nm [(2, Vp b3 0), (7, .slice a8 (d9_l17).length c8), (8, Vi n_s8_l17), (9, Vi t24__s24_l11), (10, .slice a14 (x13).length c14), (12, Vi x19), (22, .slice a_p1 (p1).length c_p1), (23, Vi ((p1).length : Int)), (24, Vi t24__s24_l11), (29, .slice a14 (x13).length c14), (30, Vi ((x13).length : Int)), (31, Vi t31__s31_l17), (81, .bool false)] (fun J => ?_)))
     refine c_false rfl (c_skip (k_then (c_sp (x_u 2 [(82, .slice a8 (d9_l17).length c8), (83, Vi x19)] ?_))))
     obtain ⟨x36, hx36, h⟩ := bind_some h
     obtain ⟨g36, cs36, ha36, hr36, hc36, hR⟩ := own_index (Mo := []) tsl111 ho8 hx36
     obtain rfl := hR
     refine x_indexAddr (xv := .slice a8 (d9_l17).length c8) (yv := Vi x19) (.pointer (some ⟨g36, (Int.toNat x19) * eBool.n, none⟩)) rfl rfl rfl rfl hr36 ?_
     obtain ⟨w38, hr38, he38, ho38⟩ := own_storeE ha36 (y := true) 0 (.bool true) tcell4 ho8 (mem_flat 1 rfl) hx36 rfl rfl (fun _ _ _ hR => set_bool hR)
     refine x_store w38 (xv := .pointer (some ⟨g36, (Int.toNat x19) * eBool.n, none⟩)) (yv := .bool true) rfl rfl rfl rfl hr38 (inl1 ?_)
     have hst := Stp.ev' (ls := [[b3], blk a8, M]) he38 (mem_flat 1 rfl)
     replace hb3 := he38.box hb3 (hms.apart 0 1 rfl rfl rfl _ mem1)
     replace hs_p0_0 := hs_p0_0.step hst
     replace hs14 := hs14.step hst
     replace hs_p1 := hs_p1.step hst
     replace hms := hms.ev he38
     replace hev := hev.then he38 (fun b hb => .inr (hfr.at 1 rfl b hb))
     replace ho8 := ho38
     have hsl : (Value.slice a8 (d9_l17).length c8) = (Value.slice a8 ((d9_l17.set (Int.toNat x19) true)).length c8) := by first | (rw [List.length_set]; done) | simp only [List.length_set]
     try rw [hsl]
     clear hsl
     refine x_ek (c_plain (x_u 3 [(85, Vi n_s8_l17), (86, Vi (IntKind.i64.wrap (n_s8_l17 + 1))), (8, Vi (IntKind.i64.wrap (n_s8_l17 + 1)))] (x_end rfl (k_block (k_then ?_)))))
     refine c_plain (x_u 2 [(87, Vi (IntKind.i64.wrap (t31__s31_l17 + 1))), (31, Vi (IntKind.i64.wrap (t31__s31_l17 + 1)))] (x_end rfl ?_))
     obtain rfl := some_inj h
     exact k_then ⟨(m17, (d9_l17.set (Int.toNat x19) true), IntKind.i64.wrap (n_s8_l17 + 1), IntKind.i64.wrap (t31__s31_l17 + 1)), ⟨rfl, rfl, rfl, rfl, rfl, rfl, rfl, rfl, rfl, rfl, rfl, trivial⟩, ⟨hn17, hev, hms, hfr, hs_p0_0, hb3, ho8, hs14, hs_p1⟩, Nat.lt_succ_self _⟩
   refine c_exit (k_then_exit ?_)
   obtain rfl := some_inj h
   have hy := some_inj hn17
   subst hy
   replace h := h17
   refine k_then_exit (k_block_in (k_block (k_then (c_nm [(2, Vp b3 0), (7, .slice a8 (d9_l17).length c8), (8, Vi n_s8_l17), (22, .slice a_p1 (p1).length c_p1), (23, Vi ((p1).length : Int)), (24, Vi t24__s24_l11)] (fun J => ?_)))))
   refine c_plain (x_u 2 [(88, Vi (IntKind.i64.wrap (t24__s24_l11 + 1))), (24, Vi (IntKind.i64.wrap (t24__s24_l11 + 1)))] (x_end rfl ?_))
   obtain rfl := some_inj h
   exact k_then ⟨(m11, d9_l17, n_s8_l17, IntKind.i64.wrap (t24__s24_l11 + 1)), ⟨rfl, rfl, rfl, rfl, rfl, rfl, trivial⟩, ⟨hn11, hev, hms, hfr, hs_p0_0, hb3, ho8, hs_p1⟩, Nat.lt_succ_self _⟩
 refine c_exit (k_then_exit ?_)
 obtain rfl := some_inj h
 have hy := some_inj hn11
 subst hy
 replace h := h11
 refine k_then_exit (k_block_in (k_then (c_nm [(2, Vp b3 0), (8, Vi n_s8_l11)] (fun J => ?_))))
 refine c_sp (x_u 1 [(89, Vi n_s8_l11)] (x_fieldAddr (xv := Vp b3 0) (Vp b3 0) rfl rfl rfl (reads_field tfld50_0 _ _) (x_load (xv := Vp b3 0) (.slice a_p0_0 (p0_0).length c_p0_0) rfl rfl rfl (reads_box tcell36 hb3 nn 0 _ rfl) (x_len (vs := [.slice a_p0_0 (p0_0).length c_p0_0]) (Vi ((p0_0).length : Int)) rfl rfl rfl (reads_len tsl36 _ _ _ _ _) (x_u 3 [(93, .bool (n_s8_l11 == ((p0_0).length : Int))), (4, .bool (n_s8_l11 == ((p0_0).length : Int))), (5, Vi 0)] ?_)))))
 refine x_ek (c_ret (r_ret (r_vals [.bool (n_s8_l11 == ((p0_0).length : Int)), Vi 0] ⟨rfl, rfl, trivial⟩ ?_)))
 obtain rfl := some_inj h
 exact ⟨rfl, hev⟩

end Go.Proofs.YtlejnkhaphlooaaGreat
