/- Walks, printed by program: each function returns what the partial function of the same name returns. Conditions: those of each theorem. -/
import Derived.Test.YtcignnfdpgeogaaGT
set_option linter.unusedVariables false
set_option linter.unusedSimpArgs false
set_option maxRecDepth 4000
namespace Go.Proofs.Ytcignnfdpgeogaa
open Go Go.V Go.Proofs
def job_in (p0 : Int) (p1 : Int) (p2 : Int) : Option Bool :=
(if (decide (p0 ≥ p1)) = true then
some (decide (p0 ≤ p2))
else
some false)

theorem job_in_w (p0 : Int) (p1 : Int) (p2 : Int) (r : Bool) (w : World) (h : job_in p0 p1 p2 = some r) : CallVC Try.prog 51 [Vi p0, Vi p1, Vi p2] w fun v w' => v = .bool r ∧ Ev [] w w' := by
 refine calls_vc hmx Try.func51 (by kernel_rfl) rfl (rs := [.tmp 6]) rfl (by kernel_rfl) (args := [Vi p0, Vi p1, Vi p2]) rfl ?_
 have hev : Ev [] w w := Ev.refl _ _
 have hms : MS w [[]] := ⟨List.pairwise_singleton _ _, fun l hl b hb => by simp only [List.mem_singleton] at hl; subst hl; cases hb⟩
 have hfr : FR w.heap.size [] := FR.nil _
 refine c_sp ?_
 refine x_pure 1 [(6, .bool false)] _ _ _ (by kernel_rfl) ?_
 refine x_ek ?_
 refine c_sp ?_
 refine x_pure 4 [(7, Vi p0), (8, Vi p1), (9, .bool (decide (p0 ≥ p1))), (10, .bool (decide (p0 ≥ p1)))] _ _ _ (by kernel_rfl) ?_
 refine x_split 10 (decide (p0 ≥ p1)) rfl (fun hb => ?_) (fun hb => ?_)
 · replace h := ite_t hb h
   refine x_pure 5 [(11, Vi p0), (12, Vi p2), (13, .bool (decide (p0 ≤ p2))), (14, .bool (decide (p0 ≤ p2))), (6, .bool (decide (p0 ≤ p2)))] _ _ _ (by kernel_rfl) ?_
   refine x_ek ?_
   refine c_ret ?_
   refine r_ret (r_vals [.bool (decide (p0 ≤ p2))] ⟨rfl, trivial⟩ ?_)
   have hx := some_inj h
   subst hx
   exact ⟨rfl, hev⟩
 replace h := ite_f hb h
 refine x_pure 5 [(11, undef), (12, undef), (13, undef), (14, .bool false), (6, .bool false)] _ _ _ (by kernel_rfl) ?_
 refine x_ek ?_
 refine c_ret ?_
 refine r_ret (r_vals [.bool false] ⟨rfl, trivial⟩ ?_)
 have hx := some_inj h
 subst hx
 exact ⟨rfl, hev⟩
def job_Valid_L8 (p0_0 : List (Int × Int × Int × Int)) (s : Int) : Option (Step Int (Int ⊕ Unit)) :=
match s with
| t16__s16_l8 =>
(if (decide (t16__s16_l8 < ((p0_0).length : Int))) = true then
((idx p0_0 t16__s16_l8).bind fun x10 =>
((job_in x10.1 0 15).bind fun x16 =>
(if (!x16) = true then
some (.done (.inl 2))
else
((job_in x10.2.1 0 31).bind fun x18 =>
(if (!x18) = true then
some (.done (.inl 2))
else
((job_in x10.2.2.1 0 12).bind fun x20 =>
(if (!x20) = true then
some (.done (.inl 2))
else
((job_in x10.2.2.2 1 400).bind fun x22 =>
(if (!x22) = true then
some (.done (.inl 2))
else
(if (decide (t16__s16_l8 > 0)) = true then
((idx p0_0 (IntKind.i64.wrap (t16__s16_l8 - 1))).bind fun x24 =>
(if (decide (x10.2.2.1 < x24.2.2.1)) = true then
some (.done (.inl 12))
else
some (.next (IntKind.i64.wrap (t16__s16_l8 + 1)))))
else
some (.next (IntKind.i64.wrap (t16__s16_l8 + 1)))))))))))))
else
some (.done (.inr ())))

def job_Valid (p0_0 : List (Int × Int × Int × Int)) (p0_1 : Int) : Option Int :=
(if (decide (((p0_0).length : Int) > 96)) = true then
some 3
else
((job_in p0_1 0 12).bind fun x6 =>
(if (!x6) = true then
some 2
else
((loop (job_Valid_L8 p0_0) 0).bind fun d => match d with
| (.inl t2__s2_x800) => some t2__s2_x800
| (.inr _) => some 0))))

theorem job_Valid_w (a_p0_0 : Option Addr) (c_p0_0 : Nat) (p0_0 : List (Int × Int × Int × Int)) (p0_1 : Int) (r : Int) (w : World) (M : List Nat) (hms : MS w [M]) (hs_p0_0 : SlR (eIt4) w (fl [M]) a_p0_0 c_p0_0 p0_0) (h : job_Valid p0_0 p0_1 = some r) : CallVC Try.prog 50 [.agg #[.slice a_p0_0 (p0_0).length c_p0_0, Vi p0_1]] w fun v w' => v = Vi r ∧ Ev [] w w' := by
 refine calls_vc hmx Try.func50 (by kernel_rfl) rfl (rs := [.tmp 2]) rfl (by kernel_rfl) (args := [.agg #[.slice a_p0_0 (p0_0).length c_p0_0, Vi p0_1]]) rfl ?_
 have hev : Ev [] w w := Ev.refl _ _
 have hfr : FR w.heap.size [] := FR.nil _
 refine c_sp ?_
 refine x_box (xv := .agg #[.slice a_p0_0 (p0_0).length c_p0_0, Vi p0_1]) rfl rfl rfl (fun b2 w2 hq2 hb2 he2 hz2 => ?_)
 replace hb2 : w2.heap[b2]? = some (.cells #[.slice a_p0_0 (p0_0).length c_p0_0, Vi p0_1] 25 (0, 0)) := hb2
 refine inl1 ?_
 have hst := Stp.box (ls := [M]) he2 hq2
 replace hs_p0_0 := hs_p0_0.step hst
 replace hms := hms.box he2 hq2 hb2
 replace hfr := hfr.box hev.size hq2
 replace hev := hev.ext he2
 refine x_pure 1 [(2, Vi 0)] _ _ _ (by kernel_rfl) ?_
 refine x_ek ?_
 refine c_seq ?_
 refine c_sp ?_
 refine x_fieldAddr (xv := Vp b2 0) (Vp b2 0) rfl rfl rfl (reads_field tfld25_0 _ _) ?_
 refine x_load (xv := Vp b2 0) (.slice a_p0_0 (p0_0).length c_p0_0) rfl rfl rfl (reads_box tcell23 hb2 nn 0 _ rfl) ?_
 refine x_len (vs := [.slice a_p0_0 (p0_0).length c_p0_0]) (Vi ((p0_0).length : Int)) rfl rfl rfl (reads_len tsl23 _ _ _ _ _) ?_
 refine x_pure 1 [(8, .bool (decide (((p0_0).length : Int) > 96)))] _ _ _ (by kernel_rfl) ?_
 refine x_ek ?_
 refine c_cond (decide (((p0_0).length : Int) > 96)) rfl (fun hb => ?_) (fun hb => ?_)
 · replace h := ite_t hb h
   refine c_sp ?_
   refine x_pure 1 [(2, Vi 3)] _ _ _ (by kernel_rfl) ?_
   refine x_ek ?_
   refine c_ret ?_
   refine k_then_ret ?_
   refine r_ret (r_vals [Vi 3] ⟨rfl, trivial⟩ ?_)
   have hx := some_inj h
   subst hx
   have hmr : MS w2 [M] := hms.pick [some 1] _ rfl
   have hsu : ∀ x ∈ fl [M], x ∈ fl [[b2], M] := pick_sub [some 1] _ rfl
   exact ⟨rfl, hev⟩
 replace h := ite_f hb h
 refine c_skip ?_
 refine k_then ?_
 refine c_seq ?_
 refine c_sp ?_
 refine x_fieldAddr (xv := Vp b2 0) (Vp b2 1) rfl rfl rfl (reads_field tfld25_1 _ _) ?_
 refine x_load (xv := Vp b2 1) (Vi p0_1) rfl rfl rfl (reads_box tcell3 hb2 nn 1 _ rfl) ?_
 obtain ⟨x6, hx, h⟩ := bind_some h
 have hcall := job_in_w p0_1 0 12 _ w2 hx
 refine x_call 51 #[] #[] [Vi p0_1, Vi 0, Vi 12] _ rfl rfl rfl rfl hcall ?_
 rintro v w7 ⟨rfl, he7⟩
 clear hcall hx
 refine inl1 ?_
 have hst := Stp.ext (ls := [[b2], M]) he7
 replace hs_p0_0 := hs_p0_0.step hst
 replace hb2 := he7.box hb2 nn
 replace hms := hms.ev he7
 replace hev := hev.ext he7
 refine x_pure 1 [(12, .bool (!x6))] _ _ _ (by kernel_rfl) ?_
 refine x_ek ?_
 refine c_cond (!x6) rfl (fun hb => ?_) (fun hb => ?_)
 · replace h := ite_t hb h
   refine c_sp ?_
   refine x_pure 1 [(2, Vi 2)] _ _ _ (by kernel_rfl) ?_
   refine x_ek ?_
   refine c_ret ?_
   refine k_then_ret ?_
   refine r_ret (r_vals [Vi 2] ⟨rfl, trivial⟩ ?_)
   have hx := some_inj h
   subst hx
   have hmr : MS w7 [M] := hms.pick [some 1] _ rfl
   have hsu : ∀ x ∈ fl [M], x ∈ fl [[b2], M] := pick_sub [some 1] _ rfl
   exact ⟨rfl, hev⟩
 replace h := ite_f hb h
 refine c_skip ?_
 refine k_then ?_
 refine c_seq ?_
 refine c_sp ?_
 refine x_fieldAddr (xv := Vp b2 0) (Vp b2 0) rfl rfl rfl (reads_field tfld25_0 _ _) ?_
 refine x_load (xv := Vp b2 0) (.slice a_p0_0 (p0_0).length c_p0_0) rfl rfl rfl (reads_box tcell23 hb2 nn 0 _ rfl) ?_
 refine x_len (vs := [.slice a_p0_0 (p0_0).length c_p0_0]) (Vi ((p0_0).length : Int)) rfl rfl rfl (reads_len tsl23 _ _ _ _ _) ?_
 refine x_pure 1 [(16, Vi 0)] _ _ _ (by kernel_rfl) ?_
 refine x_ek ?_
 refine c_norm [(1, Vp b2 0), (14, .slice a_p0_0 (p0_0).length c_p0_0), (15, Vi ((p0_0).length : Int)), (16, Vi 0)] ⟨rfl, rfl, rfl, rfl, trivial⟩ (fun J => ?_)
 refine c_block ?_
 obtain ⟨d8, hd8, h8⟩ := bind_some h
 obtain ⟨m8, hd8⟩ := loop_some hd8
 refine c_loop (loop_rule hmx (σ := Nat × Int) (fun s => match s with | (_, t16__s16_l8) => [(1, Vp b2 0), (14, .slice a_p0_0 (p0_0).length c_p0_0), (15, Vi ((p0_0).length : Int)), (16, Vi t16__s16_l8)]) (fun s w' => match s with | (m, t16__s16_l8) => loopN (job_Valid_L8 p0_0) m t16__s16_l8 = some d8 ∧ Ev [] w w' ∧ MS w' [[b2], M] ∧ FR w.heap.size [[b2]] ∧ SlR (eIt4) w' (fl [[b2], M]) a_p0_0 c_p0_0 p0_0 ∧ w'.heap[b2]? = some (.cells #[.slice a_p0_0 (p0_0).length c_p0_0, Vi p0_1] 25 (0, 0))) (fun s => s.1) (m8, 0) ⟨rfl, rfl, rfl, rfl, trivial⟩ ⟨hd8, hev, hms, hfr, hs_p0_0, hb2⟩ ?_)
 rintro ⟨m8, t16__s16_l8⟩ J wl8 ⟨hn8, hev, hms, hfr, hs_p0_0, hb2⟩
 rcases m8 with _ | m8
 · exact (loopN_zero hn8).elim
 obtain ⟨t8, h, hn8⟩ := bind_some hn8
 refine c_sp ?_
 refine x_pure 1 [(17, .bool (decide (t16__s16_l8 < ((p0_0).length : Int))))] _ _ _ (by kernel_rfl) ?_
 refine x_ek ?_
 refine c_norm [(1, Vp b2 0), (14, .slice a_p0_0 (p0_0).length c_p0_0), (15, Vi ((p0_0).length : Int)), (16, Vi t16__s16_l8), (17, .bool (decide (t16__s16_l8 < ((p0_0).length : Int))))] ⟨rfl, rfl, rfl, rfl, rfl, trivial⟩ (fun J => ?_)
 refine c_seq ?_
 refine c_cond (decide (t16__s16_l8 < ((p0_0).length : Int))) rfl (fun hb => ?_) (fun hb => ?_)
 · replace h := ite_t hb h
   refine c_skip ?_
   refine k_then ?_
   refine c_seq ?_
   refine c_block ?_
   refine c_sp ?_
   refine x_pure 1 [(18, Vi t16__s16_l8)] _ _ _ (by kernel_rfl) ?_
   obtain ⟨x10, hx10, h⟩ := bind_some h
   obtain ⟨ad10, cs10, hr10, hc10, hR⟩ := reads_index (Mo := []) tsl23 hs_p0_0 hx10
   obtain ⟨_, _, rfl, rfl, ⟨_, _, rfl, rfl, ⟨_, _, rfl, rfl, rfl⟩⟩⟩ := hR
   refine x_indexAddr (xv := .slice a_p0_0 (p0_0).length c_p0_0) (yv := Vi t16__s16_l8) (.pointer (some ad10)) rfl rfl rfl rfl hr10 ?_
   refine x_load (xv := .pointer (some ad10)) (.agg #[Vi x10.1, Vi x10.2.1, Vi x10.2.2.1, Vi x10.2.2.2]) rfl rfl rfl (reads_agg tagg79 hc10 (fun _ h => by cases h)) ?_
   refine x_alloc (z := .agg #[Vi 0, Vi 0, Vi 0, Vi 0]) rfl rfl (by kernel_rfl) (fun b12 w12 hq12 hb12 he12 hz12 => ?_)
   replace hb12 : w12.heap[b12]? = some (.cells #[Vi 0, Vi 0, Vi 0, Vi 0] 79 (0, 0)) := hb12
   refine inl1 ?_
   have hst := Stp.box (ls := [[b2], M]) he12 hq12
   replace hb2 := he12.box hb2 nn
   replace hs_p0_0 := hs_p0_0.step hst
   replace hc10 := hc10.step hst
   replace hms := hms.box he12 hq12 hb12
   replace hfr := hfr.box hev.size hq12
   replace hev := hev.ext he12
   refine x_pure 1 [(3, Vi t16__s16_l8)] _ _ _ (by kernel_rfl) ?_
   obtain ⟨w14, hr14, hb14, he14⟩ := store_boxagg 0 [Vi x10.1, Vi x10.2.1, Vi x10.2.2.1, Vi x10.2.2.2] #[Vi x10.1, Vi x10.2.1, Vi x10.2.2.1, Vi x10.2.2.2] tagg79 hb12 rfl rfl rfl
   refine x_store w14 (xv := Vp b12 0) (yv := .agg #[Vi x10.1, Vi x10.2.1, Vi x10.2.2.1, Vi x10.2.2.2]) rfl rfl rfl rfl hr14 ?_
   refine inl1 ?_
   have hst := Stp.ev' (ls := [[b12], [b2], M]) he14 (mem_flat 0 rfl)
   replace hb2 := he14.box hb2 (hms.apart 1 0 rfl rfl rfl _ mem1)
   replace hs_p0_0 := hs_p0_0.step hst
   replace hc10 := hc10.step hst
   replace hms := hms.ev he14
   replace hev := hev.then he14 (fun b hb => .inr (hfr.at 0 rfl b hb))
   replace hb12 := hb14
   refine x_ek ?_
   refine c_seq ?_
   refine c_sp ?_
   refine x_fieldAddr (xv := Vp b12 0) (Vp b12 0) rfl rfl rfl (reads_field tfld79_0 _ _) ?_
   refine x_load (xv := Vp b12 0) (Vi x10.1) rfl rfl rfl (reads_box tcell3 hb12 nn 0 _ rfl) ?_
   obtain ⟨x16, hx, h⟩ := bind_some h
   have hcall := job_in_w x10.1 0 15 _ w14 hx
   refine x_call 51 #[] #[] [Vi x10.1, Vi 0, Vi 15] _ rfl rfl rfl rfl hcall ?_
   rintro v w17 ⟨rfl, he17⟩
   clear hcall hx
   refine inl1 ?_
   have hst := Stp.ext (ls := [[b12], [b2], M]) he17
   replace hb2 := he17.box hb2 nn
   replace hs_p0_0 := hs_p0_0.step hst
   replace hb12 := he17.box hb12 nn
   replace hms := hms.ev he17
   replace hev := hev.ext he17
   refine x_pure 2 [(24, .bool (!x16)), (25, .bool (!x16))] _ _ _ (by kernel_rfl) ?_
   refine x_split 25 (!x16) rfl (fun hb => ?_) (fun hb => ?_)
   · replace h := ite_t hb h
     refine x_pure 17 [(26, undef), (27, undef), (28, undef), (29, undef), (30, .bool true), (31, .bool true), (32, undef), (33, undef), (34, undef), (35, undef), (36, .bool true), (37, .bool true), (38, undef), (39, undef), (40, undef), (41, undef), (42, .bool true)] _ _ _ (by kernel_rfl) ?_
     refine x_ek ?_
     refine c_norm [(1, Vp b2 0), (3, Vi t16__s16_l8), (4, Vp b12 0), (14, .slice a_p0_0 (p0_0).length c_p0_0), (15, Vi ((p0_0).length : Int)), (16, Vi t16__s16_l8), (42, .bool true)] ⟨rfl, rfl, rfl, rfl, rfl, rfl, rfl, trivial⟩ (fun J => ?_)
     refine c_true rfl ?_
     refine c_sp ?_
     refine x_pure 1 [(2, Vi 2)] _ _ _ (by kernel_rfl) ?_
     refine x_ek ?_
     refine c_ret ?_
     refine k_then_ret ?_
     refine k_block_ret ?_
     refine k_then_ret ?_
     have hx := some_inj h
     subst hx
     have hy := some_inj hn8
     subst hy
     replace h := h8
     refine k_then_ret ?_
     refine k_block_ret ?_
     refine k_then_ret ?_
     refine r_ret (r_vals [Vi 2] ⟨rfl, trivial⟩ ?_)
     have hx := some_inj h
     subst hx
     have hmr : MS w17 [M] := hms.pick [some 2] _ rfl
     have hsu : ∀ x ∈ fl [M], x ∈ fl [[b12], [b2], M] := pick_sub [some 2] _ rfl
     exact ⟨rfl, hev⟩
   replace h := ite_f hb h
   refine x_fieldAddr (xv := Vp b12 0) (Vp b12 1) rfl rfl rfl (reads_field tfld79_1 _ _) ?_
   refine x_load (xv := Vp b12 1) (Vi x10.2.1) rfl rfl rfl (reads_box tcell3 hb12 nn 1 _ rfl) ?_
   obtain ⟨x18, hx, h⟩ := bind_some h
   have hcall := job_in_w x10.2.1 0 31 _ w17 hx
   refine x_call 51 #[] #[] [Vi x10.2.1, Vi 0, Vi 31] _ rfl rfl rfl rfl hcall ?_
   rintro v w19 ⟨rfl, he19⟩
   clear hcall hx
   refine inl1 ?_
   have hst := Stp.ext (ls := [[b12], [b2], M]) he19
   replace hb2 := he19.box hb2 nn
   replace hs_p0_0 := hs_p0_0.step hst
   replace hb12 := he19.box hb12 nn
   replace hms := hms.ev he19
   replace hev := hev.ext he19
   refine x_pure 3 [(29, .bool (!x18)), (30, .bool (!x18)), (31, .bool (!x18))] _ _ _ (by kernel_rfl) ?_
   refine x_split 31 (!x18) rfl (fun hb => ?_) (fun hb => ?_)
   · replace h := ite_t hb h
     refine x_pure 11 [(32, undef), (33, undef), (34, undef), (35, undef), (36, .bool true), (37, .bool true), (38, undef), (39, undef), (40, undef), (41, undef), (42, .bool true)] _ _ _ (by kernel_rfl) ?_
     refine x_ek ?_
     refine c_norm [(1, Vp b2 0), (3, Vi t16__s16_l8), (4, Vp b12 0), (14, .slice a_p0_0 (p0_0).length c_p0_0), (15, Vi ((p0_0).length : Int)), (16, Vi t16__s16_l8), (42, .bool true)] ⟨rfl, rfl, rfl, rfl, rfl, rfl, rfl, trivial⟩ (fun J => ?_)
     refine c_true rfl ?_
     refine c_sp ?_
     refine x_pure 1 [(2, Vi 2)] _ _ _ (by kernel_rfl) ?_
     refine x_ek ?_
     refine c_ret ?_
     refine k_then_ret ?_
     refine k_block_ret ?_
     refine k_then_ret ?_
     have hx := some_inj h
     subst hx
     have hy := some_inj hn8
     subst hy
     replace h := h8
     refine k_then_ret ?_
     refine k_block_ret ?_
     refine k_then_ret ?_
     refine r_ret (r_vals [Vi 2] ⟨rfl, trivial⟩ ?_)
     have hx := some_inj h
     subst hx
     have hmr : MS w19 [M] := hms.pick [some 2] _ rfl
     have hsu : ∀ x ∈ fl [M], x ∈ fl [[b12], [b2], M] := pick_sub [some 2] _ rfl
     exact ⟨rfl, hev⟩
   replace h := ite_f hb h
   refine x_fieldAddr (xv := Vp b12 0) (Vp b12 2) rfl rfl rfl (reads_field tfld79_2 _ _) ?_
   refine x_load (xv := Vp b12 2) (Vi x10.2.2.1) rfl rfl rfl (reads_box tcell3 hb12 nn 2 _ rfl) ?_
   obtain ⟨x20, hx, h⟩ := bind_some h
   have hcall := job_in_w x10.2.2.1 0 12 _ w19 hx
   refine x_call 51 #[] #[] [Vi x10.2.2.1, Vi 0, Vi 12] _ rfl rfl rfl rfl hcall ?_
   rintro v w21 ⟨rfl, he21⟩
   clear hcall hx
   refine inl1 ?_
   have hst := Stp.ext (ls := [[b12], [b2], M]) he21
   replace hb2 := he21.box hb2 nn
   replace hs_p0_0 := hs_p0_0.step hst
   replace hb12 := he21.box hb12 nn
   replace hms := hms.ev he21
   replace hev := hev.ext he21
   refine x_pure 3 [(35, .bool (!x20)), (36, .bool (!x20)), (37, .bool (!x20))] _ _ _ (by kernel_rfl) ?_
   refine x_split 37 (!x20) rfl (fun hb => ?_) (fun hb => ?_)
   · replace h := ite_t hb h
     refine x_pure 5 [(38, undef), (39, undef), (40, undef), (41, undef), (42, .bool true)] _ _ _ (by kernel_rfl) ?_
     refine x_ek ?_
     refine c_norm [(1, Vp b2 0), (3, Vi t16__s16_l8), (4, Vp b12 0), (14, .slice a_p0_0 (p0_0).length c_p0_0), (15, Vi ((p0_0).length : Int)), (16, Vi t16__s16_l8), (42, .bool true)] ⟨rfl, rfl, rfl, rfl, rfl, rfl, rfl, trivial⟩ (fun J => ?_)
     refine c_true rfl ?_
     refine c_sp ?_
     refine x_pure 1 [(2, Vi 2)] _ _ _ (by kernel_rfl) ?_
     refine x_ek ?_
     refine c_ret ?_
     refine k_then_ret ?_
     refine k_block_ret ?_
     refine k_then_ret ?_
     have hx := some_inj h
     subst hx
     have hy := some_inj hn8
     subst hy
     replace h := h8
     refine k_then_ret ?_
     refine k_block_ret ?_
     refine k_then_ret ?_
     refine r_ret (r_vals [Vi 2] ⟨rfl, trivial⟩ ?_)
     have hx := some_inj h
     subst hx
     have hmr : MS w21 [M] := hms.pick [some 2] _ rfl
     have hsu : ∀ x ∈ fl [M], x ∈ fl [[b12], [b2], M] := pick_sub [some 2] _ rfl
     exact ⟨rfl, hev⟩
   replace h := ite_f hb h
   refine x_fieldAddr (xv := Vp b12 0) (Vp b12 3) rfl rfl rfl (reads_field tfld79_3 _ _) ?_
   refine x_load (xv := Vp b12 3) (Vi x10.2.2.2) rfl rfl rfl (reads_box tcell3 hb12 nn 3 _ rfl) ?_
   obtain ⟨x22, hx, h⟩ := bind_some h
   have hcall := job_in_w x10.2.2.2 1 400 _ w21 hx
   refine x_call 51 #[] #[] [Vi x10.2.2.2, Vi 1, Vi 400] _ rfl rfl rfl rfl hcall ?_
   rintro v w23 ⟨rfl, he23⟩
   clear hcall hx
   refine inl1 ?_
   have hst := Stp.ext (ls := [[b12], [b2], M]) he23
   replace hb2 := he23.box hb2 nn
   replace hs_p0_0 := hs_p0_0.step hst
   replace hb12 := he23.box hb12 nn
   replace hms := hms.ev he23
   replace hev := hev.ext he23
   refine x_pure 2 [(41, .bool (!x22)), (42, .bool (!x22))] _ _ _ (by kernel_rfl) ?_
   refine x_ek ?_
   refine c_norm [(1, Vp b2 0), (3, Vi t16__s16_l8), (4, Vp b12 0), (14, .slice a_p0_0 (p0_0).length c_p0_0), (15, Vi ((p0_0).length : Int)), (16, Vi t16__s16_l8), (42, .bool (!x22))] ⟨rfl, rfl, rfl, rfl, rfl, rfl, rfl, trivial⟩ (fun J => ?_)
   refine c_cond (!x22) rfl (fun hb => ?_) (fun hb => ?_)
   · replace h := ite_t hb h
     refine c_sp ?_
     refine x_pure 1 [(2, Vi 2)] _ _ _ (by kernel_rfl) ?_
     refine x_ek ?_
     refine c_ret ?_
     refine k_then_ret ?_
     refine k_block_ret ?_
     refine k_then_ret ?_
     have hx := some_inj h
     subst hx
     have hy := some_inj hn8
     subst hy
     replace h := h8
     refine k_then_ret ?_
     refine k_block_ret ?_
     refine k_then_ret ?_
     refine r_ret (r_vals [Vi 2] ⟨rfl, trivial⟩ ?_)
     have hx := some_inj h
     subst hx
     have hmr : MS w23 [M] := hms.pick [some 2] _ rfl
     have hsu : ∀ x ∈ fl [M], x ∈ fl [[b12], [b2], M] := pick_sub [some 2] _ rfl
     exact ⟨rfl, hev⟩
   replace h := ite_f hb h
   refine c_skip ?_
   refine k_then ?_
   refine c_seq ?_
   refine c_drawn [] [(0, false), (1, false), (2, false), (3, false), (4, false), (5, false), (6, false), (7, false), (8, false), (9, false), (10, false), (11, false), (12, false), (13, false)] _ (by kernel_rfl) rfl ?_
   have hst := Stp.ext (ls := [[b12], [b2], M]) (Ev.drew w23)
   replace hb2 := (Ev.drew w23).box hb2 nn
   replace hs_p0_0 := hs_p0_0.step hst
   replace hb12 := (Ev.drew w23).box hb12 nn
   replace hms := hms.ev (Ev.drew w23)
   replace hev := hev.ext (Ev.drew w23)
   refine x_pure 3 [(43, Vi t16__s16_l8), (44, .bool (decide (t16__s16_l8 > 0))), (45, .bool (decide (t16__s16_l8 > 0)))] _ _ _ (by kernel_rfl) ?_
   refine x_split 45 (decide (t16__s16_l8 > 0)) rfl (fun hb => ?_) (fun hb => ?_)
   · replace h := ite_t hb h
     refine x_fieldAddr (xv := Vp b12 0) (Vp b12 2) rfl rfl rfl (reads_field tfld79_2 _ _) ?_
     refine x_load (xv := Vp b12 2) (Vi x10.2.2.1) rfl rfl rfl (reads_box tcell3 hb12 nn 2 _ rfl) ?_
     refine x_fieldAddr (xv := Vp b2 0) (Vp b2 0) rfl rfl rfl (reads_field tfld25_0 _ _) ?_
     refine x_load (xv := Vp b2 0) (.slice a_p0_0 (p0_0).length c_p0_0) rfl rfl rfl (reads_box tcell23 hb2 nn 0 _ rfl) ?_
     refine x_pure 2 [(50, Vi t16__s16_l8), (51, Vi (IntKind.i64.wrap (t16__s16_l8 - 1)))] _ _ _ (by kernel_rfl) ?_
     obtain ⟨x24, hx24, h⟩ := bind_some h
     obtain ⟨ad24, cs24, hr24, hc24, hR⟩ := reads_index (Mo := []) tsl23 hs_p0_0 hx24
     obtain ⟨_, _, rfl, rfl, ⟨_, _, rfl, rfl, ⟨_, _, rfl, rfl, rfl⟩⟩⟩ := hR
     refine x_indexAddr (xv := .slice a_p0_0 (p0_0).length c_p0_0) (yv := Vi (IntKind.i64.wrap (t16__s16_l8 - 1))) (.pointer (some ad24)) rfl rfl rfl rfl hr24 ?_
     refine x_fieldAddr (xv := .pointer (some ad24)) (.pointer (some (Addr.add ad24 2))) rfl rfl rfl (reads_field tfld79_2 _ _) ?_
     refine x_load (xv := .pointer (some (Addr.add ad24 2))) (Vi x24.2.2.1) rfl rfl rfl (reads_cell tcell3 hc24 (fun _ h => by cases h) 2 _ rfl) ?_
     refine x_pure 2 [(55, .bool (decide (x10.2.2.1 < x24.2.2.1))), (56, .bool (decide (x10.2.2.1 < x24.2.2.1)))] _ _ _ (by kernel_rfl) ?_
     refine x_ek ?_
     refine c_norm [(1, Vp b2 0), (14, .slice a_p0_0 (p0_0).length c_p0_0), (15, Vi ((p0_0).length : Int)), (16, Vi t16__s16_l8), (56, .bool (decide (x10.2.2.1 < x24.2.2.1)))] ⟨rfl, rfl, rfl, rfl, rfl, trivial⟩ (fun J => ?_)
     refine c_cond (decide (x10.2.2.1 < x24.2.2.1)) rfl (fun hb => ?_) (fun hb => ?_)
     · replace h := ite_t hb h
       refine c_sp ?_
       refine x_pure 1 [(2, Vi 12)] _ _ _ (by kernel_rfl) ?_
       refine x_ek ?_
       refine c_ret ?_
       refine k_block_ret ?_
       refine k_then_ret ?_
       have hx := some_inj h
       subst hx
       have hy := some_inj hn8
       subst hy
       replace h := h8
       refine k_then_ret ?_
       refine k_block_ret ?_
       refine k_then_ret ?_
       refine r_ret (r_vals [Vi 12] ⟨rfl, trivial⟩ ?_)
       have hx := some_inj h
       subst hx
       have hmr : MS (w23).drew [M] := hms.pick [some 2] _ rfl
       have hsu : ∀ x ∈ fl [M], x ∈ fl [[b12], [b2], M] := pick_sub [some 2] _ rfl
       exact ⟨rfl, hev⟩
     replace h := ite_f hb h
     refine c_skip ?_
     refine k_block ?_
     refine k_then ?_
     refine c_plain ?_
     refine x_pure 2 [(57, Vi (IntKind.i64.wrap (t16__s16_l8 + 1))), (16, Vi (IntKind.i64.wrap (t16__s16_l8 + 1)))] _ _ _ (by kernel_rfl) ?_
     refine x_end rfl ?_
     have hx := some_inj h
     subst hx
     have hpk : MS (w23).drew [[b2], M] := hms.pick [some 1, some 2] _ rfl
     have hsu : ∀ x ∈ fl [[b2], M], x ∈ fl [[b12], [b2], M] := pick_sub [some 1, some 2] _ rfl
     replace hs_p0_0 := hs_p0_0.sub hsu
     replace hms := hpk
     replace hfr : FR w.heap.size [[b2]] := hfr.pick [some 1] _ rfl
     clear hpk hsu
     exact k_then ⟨(m8, IntKind.i64.wrap (t16__s16_l8 + 1)), ⟨rfl, rfl, rfl, rfl, trivial⟩, ⟨hn8, hev, hms, hfr, hs_p0_0, hb2⟩, Nat.lt_succ_self _⟩
   replace h := ite_f hb h
   refine x_pure 11 [(46, undef), (47, undef), (48, undef), (49, undef), (50, undef), (51, undef), (52, undef), (53, undef), (54, undef), (55, undef), (56, .bool false)] _ _ _ (by kernel_rfl) ?_
   refine x_ek ?_
   refine c_norm [(1, Vp b2 0), (14, .slice a_p0_0 (p0_0).length c_p0_0), (15, Vi ((p0_0).length : Int)), (16, Vi t16__s16_l8), (56, .bool false)] ⟨rfl, rfl, rfl, rfl, rfl, trivial⟩ (fun J => ?_)
   refine c_false rfl ?_
   refine c_skip ?_
   refine k_block ?_
   refine k_then ?_
   refine c_plain ?_
   refine x_pure 2 [(57, Vi (IntKind.i64.wrap (t16__s16_l8 + 1))), (16, Vi (IntKind.i64.wrap (t16__s16_l8 + 1)))] _ _ _ (by kernel_rfl) ?_
   refine x_end rfl ?_
   have hx := some_inj h
   subst hx
   have hpk : MS (w23).drew [[b2], M] := hms.pick [some 1, some 2] _ rfl
   have hsu : ∀ x ∈ fl [[b2], M], x ∈ fl [[b12], [b2], M] := pick_sub [some 1, some 2] _ rfl
   replace hs_p0_0 := hs_p0_0.sub hsu
   replace hms := hpk
   replace hfr : FR w.heap.size [[b2]] := hfr.pick [some 1] _ rfl
   clear hpk hsu
   exact k_then ⟨(m8, IntKind.i64.wrap (t16__s16_l8 + 1)), ⟨rfl, rfl, rfl, rfl, trivial⟩, ⟨hn8, hev, hms, hfr, hs_p0_0, hb2⟩, Nat.lt_succ_self _⟩
 replace h := ite_f hb h
 refine c_exit ?_
 refine k_then_exit ?_
 have hx := some_inj h
 subst hx
 have hy := some_inj hn8
 subst hy
 replace h := h8
 refine k_then_exit ?_
 refine k_block_in ?_
 refine k_then ?_
 refine c_norm [] trivial (fun J => ?_)
 refine c_sp ?_
 refine x_pure 1 [(2, Vi 0)] _ _ _ (by kernel_rfl) ?_
 refine x_ek ?_
 refine c_ret ?_
 refine r_ret (r_vals [Vi 0] ⟨rfl, trivial⟩ ?_)
 have hx := some_inj h
 subst hx
 have hmr : MS wl8 [M] := hms.pick [some 1] _ rfl
 have hsu : ∀ x ∈ fl [M], x ∈ fl [[b2], M] := pick_sub [some 1] _ rfl
 exact ⟨rfl, hev⟩
def job_relation_J9 (p1 : Int) (p2 : Int) (t19__s19_j9 : Bool) : Option Int :=
(if t19__s19_j9 = true then
some 0
else
(if (decide (p2 < p1)) = true then
some 2
else
some 1))

def job_relation_J4 (p1 : Int) (p2 : Int) (e10_j4_0 : Int) (e10_j4_1 : Int) (e10_j4_2 : Int) (e10_j4_3 : Int) (e12_j4_0 : Int) (e12_j4_1 : Int) (e12_j4_2 : Int) (e12_j4_3 : Int) : Option Int :=
(if (e10_j4_0 != e12_j4_0) = true then
job_relation_J9 p1 p2 true
else
job_relation_J9 p1 p2 (decide (e10_j4_1 ≥ e12_j4_1)))

def job_relation (p0_0 : List (Int × Int × Int × Int)) (p0_1 : Int) (p1 : Int) (p2 : Int) : Option Int :=
((idx p0_0 p1).bind fun x5 =>
((idx p0_0 p2).bind fun x7 =>
job_relation_J4 p1 p2 x5.1 x5.2.1 x5.2.2.1 x5.2.2.2 x7.1 x7.2.1 x7.2.2.1 x7.2.2.2))

theorem job_relation_w (a_p0_0 : Option Addr) (c_p0_0 : Nat) (p0_0 : List (Int × Int × Int × Int)) (p0_1 : Int) (p1 : Int) (p2 : Int) (r : Int) (w : World) (M : List Nat) (hms : MS w [M]) (hs_p0_0 : SlR (eIt4) w (fl [M]) a_p0_0 c_p0_0 p0_0) (h : job_relation p0_0 p0_1 p1 p2 = some r) : CallVC Try.prog 62 [.agg #[.slice a_p0_0 (p0_0).length c_p0_0, Vi p0_1], Vi p1, Vi p2] w fun v w' => v = Vi r ∧ Ev [] w w' := by
 refine calls_vc hmx Try.func62 (by kernel_rfl) rfl (rs := [.tmp 6]) rfl (by kernel_rfl) (args := [.agg #[.slice a_p0_0 (p0_0).length c_p0_0, Vi p0_1], Vi p1, Vi p2]) rfl ?_
 have hev : Ev [] w w := Ev.refl _ _
 have hfr : FR w.heap.size [] := FR.nil _
 refine c_sp ?_
 refine x_box (xv := .agg #[.slice a_p0_0 (p0_0).length c_p0_0, Vi p0_1]) rfl rfl rfl (fun b2 w2 hq2 hb2 he2 hz2 => ?_)
 replace hb2 : w2.heap[b2]? = some (.cells #[.slice a_p0_0 (p0_0).length c_p0_0, Vi p0_1] 25 (0, 0)) := hb2
 refine inl1 ?_
 have hst := Stp.box (ls := [M]) he2 hq2
 replace hs_p0_0 := hs_p0_0.step hst
 replace hms := hms.box he2 hq2 hb2
 replace hfr := hfr.box hev.size hq2
 replace hev := hev.ext he2
 refine x_pure 1 [(6, Vi 0)] _ _ _ (by kernel_rfl) ?_
 refine x_ek ?_
 refine c_join (σ := Int × Int × Int × Int × Int × Int × Int × Int × Nat × Nat) (fun s => match s with | (e10_j4_0, e10_j4_1, e10_j4_2, e10_j4_3, e12_j4_0, e12_j4_1, e12_j4_2, e12_j4_3, b10_j4, b12_j4) => [(1, Vi p1), (2, Vi p2), (7, Vp b10_j4 0), (8, Vp b12_j4 0)]) (fun s w' => match s with | (e10_j4_0, e10_j4_1, e10_j4_2, e10_j4_3, e12_j4_0, e12_j4_1, e12_j4_2, e12_j4_3, b10_j4, b12_j4) => job_relation_J4 p1 p2 e10_j4_0 e10_j4_1 e10_j4_2 e10_j4_3 e12_j4_0 e12_j4_1 e12_j4_2 e12_j4_3 = some r ∧ Ev [] w w' ∧ MS w' [[b10_j4], [b12_j4], M] ∧ FR w.heap.size [[b10_j4], [b12_j4]] ∧ w'.heap[b10_j4]? = some (.cells #[Vi e10_j4_0, Vi e10_j4_1, Vi e10_j4_2, Vi e10_j4_3] 79 (0, 0)) ∧ w'.heap[b12_j4]? = some (.cells #[Vi e12_j4_0, Vi e12_j4_1, Vi e12_j4_2, Vi e12_j4_3] 79 (0, 0))) ?_ ?_
 · refine c_drawnp (newmo (w2).drew) [(0, false), (1, false), (2, false), (3, false), (4, false), (5, false), (6, false), (7, false), (8, false), (9, false)] (.alt 10 false (opsThen [(11, false), (12, false), (13, true)] .stop) (.alt 11 false (opsThen [(10, false), (12, false), (13, true)] .stop) .none_)) _ (by kernel_rfl) rfl ?_
   have hst := Stp.ext (ls := [[b2], M]) (Ev.drew w2)
   replace hs_p0_0 := hs_p0_0.step hst
   replace hb2 := (Ev.drew w2).box hb2 nn
   replace hms := hms.ev (Ev.drew w2)
   replace hev := hev.ext (Ev.drew w2)
   have hnz : ((w2).drew).heap.size = ((w2).drew).heap.size + 0 := rfl
   refine x_fieldAddr (xv := Vp b2 0) (Vp b2 0) rfl rfl rfl (reads_field tfld25_0 _ _) ?_
   refine x_load (xv := Vp b2 0) (.slice a_p0_0 (p0_0).length c_p0_0) rfl rfl rfl (reads_box tcell23 hb2 ((newmo_out (hms.ltat 0 rfl)) _ mem1) 0 _ rfl) ?_
   refine x_pure 1 [(11, Vi p1)] _ _ _ (by kernel_rfl) ?_
   obtain ⟨x5, hx5, h⟩ := bind_some h
   obtain ⟨ad5, cs5, hr5, hc5, hR⟩ := reads_index (Mo := (newmo (w2).drew)) tsl23 hs_p0_0 hx5
   obtain ⟨_, _, rfl, rfl, ⟨_, _, rfl, rfl, ⟨_, _, rfl, rfl, rfl⟩⟩⟩ := hR
   refine x_indexAddr (xv := .slice a_p0_0 (p0_0).length c_p0_0) (yv := Vi p1) (.pointer (some ad5)) rfl rfl rfl rfl hr5 ?_
   refine x_load (xv := .pointer (some ad5)) (.agg #[Vi x5.1, Vi x5.2.1, Vi x5.2.2.1, Vi x5.2.2.2]) rfl rfl rfl (reads_agg tagg79 (CellsAt.newer hc5) (fun b hb => hb)) ?_
   refine x_fieldAddr (xv := Vp b2 0) (Vp b2 0) rfl rfl rfl (reads_field tfld25_0 _ _) ?_
   refine x_load (xv := Vp b2 0) (.slice a_p0_0 (p0_0).length c_p0_0) rfl rfl rfl (reads_box tcell23 hb2 ((newmo_out (hms.ltat 0 rfl)) _ mem1) 0 _ rfl) ?_
   refine x_pure 1 [(16, Vi p2)] _ _ _ (by kernel_rfl) ?_
   obtain ⟨x7, hx7, h⟩ := bind_some h
   obtain ⟨ad7, cs7, hr7, hc7, hR⟩ := reads_index (Mo := (newmo (w2).drew)) tsl23 hs_p0_0 hx7
   obtain ⟨_, _, rfl, rfl, ⟨_, _, rfl, rfl, ⟨_, _, rfl, rfl, rfl⟩⟩⟩ := hR
   refine x_indexAddr (xv := .slice a_p0_0 (p0_0).length c_p0_0) (yv := Vi p2) (.pointer (some ad7)) rfl rfl rfl rfl hr7 ?_
   refine x_load (xv := .pointer (some ad7)) (.agg #[Vi x7.1, Vi x7.2.1, Vi x7.2.2.1, Vi x7.2.2.2]) rfl rfl rfl (reads_agg tagg79 (CellsAt.newer hc7) (fun b hb => hb)) ?_
   refine x_end rfl ?_
   refine t_alt _ rfl ?_ ?_
   · refine x_alloc (z := .agg #[Vi 0, Vi 0, Vi 0, Vi 0]) rfl rfl (by kernel_rfl) (fun b9 w9 hq9 hb9 he9 hz9 => ?_)
     replace hb9 : w9.heap[b9]? = some (.cells #[Vi 0, Vi 0, Vi 0, Vi 0] 79 (0, 0)) := hb9
     refine ⟨.inr (he9.nil), ?_⟩
     have hns9 : w9.heap.size = b9 + 1 := hz9
     have hnb9 : b9 = ((w2).drew).heap.size + 0 := by omega
     replace hnz : w9.heap.size = ((w2).drew).heap.size + 1 := by omega
     have hst := Stp.box (ls := [[b2], M]) he9 hq9
     replace hs_p0_0 := hs_p0_0.step hst
     replace hb2 := he9.box hb2 nn
     replace hc5 := hc5.step hst
     replace hc7 := hc7.step hst
     replace hms := hms.box he9 hq9 hb9
     replace hfr := hfr.box hev.size hq9
     replace hev := hev.ext he9
     refine x_alloc (z := .agg #[Vi 0, Vi 0, Vi 0, Vi 0]) rfl rfl (by kernel_rfl) (fun b11 w11 hq11 hb11 he11 hz11 => ?_)
     replace hb11 : w11.heap[b11]? = some (.cells #[Vi 0, Vi 0, Vi 0, Vi 0] 79 (0, 0)) := hb11
     refine ⟨.inr (he11.nil), ?_⟩
     have hns11 : w11.heap.size = b11 + 1 := hz11
     have hnb11 : b11 = ((w2).drew).heap.size + 1 := by omega
     replace hnz : w11.heap.size = ((w2).drew).heap.size + 2 := by omega
     have hst := Stp.box (ls := [[b9], [b2], M]) he11 hq11
     replace hs_p0_0 := hs_p0_0.step hst
     replace hb2 := he11.box hb2 nn
     replace hc5 := hc5.step hst
     replace hc7 := hc7.step hst
     replace hb9 := he11.box hb9 nn
     replace hms := hms.box he11 hq11 hb11
     replace hfr := hfr.box hev.size hq11
     replace hev := hev.ext he11
     obtain ⟨w13, hr13, hb13, he13⟩ := store_boxagg 0 [Vi x5.1, Vi x5.2.1, Vi x5.2.2.1, Vi x5.2.2.2] #[Vi x5.1, Vi x5.2.1, Vi x5.2.2.1, Vi x5.2.2.2] tagg79 hb9 rfl rfl rfl
     refine x_store w13 (xv := Vp b9 0) (yv := .agg #[Vi x5.1, Vi x5.2.1, Vi x5.2.2.1, Vi x5.2.2.2]) rfl rfl rfl rfl hr13 ?_
     refine ⟨.inr (he13.sub (fun x hx => by simp only [List.mem_singleton] at hx; subst hx; exact newmo_mem hnb9 rfl)), ?_⟩
     have hst := Stp.ev' (ls := [[b11], [b9], [b2], M]) he13 (mem_flat 1 rfl)
     replace hs_p0_0 := hs_p0_0.step hst
     replace hb2 := he13.box hb2 (hms.apart 2 1 rfl rfl rfl _ mem1)
     replace hc5 := hc5.step hst
     replace hc7 := hc7.step hst
     replace hb11 := he13.box hb11 (hms.apart 0 1 rfl rfl rfl _ mem1)
     replace hms := hms.ev he13
     replace hev := hev.then he13 (fun b hb => .inr (hfr.at 1 rfl b hb))
     replace hb9 := hb13
     obtain ⟨w14, hr14, hb14, he14⟩ := store_boxagg 0 [Vi x7.1, Vi x7.2.1, Vi x7.2.2.1, Vi x7.2.2.2] #[Vi x7.1, Vi x7.2.1, Vi x7.2.2.1, Vi x7.2.2.2] tagg79 hb11 rfl rfl rfl
     refine x_store w14 (xv := Vp b11 0) (yv := .agg #[Vi x7.1, Vi x7.2.1, Vi x7.2.2.1, Vi x7.2.2.2]) rfl rfl rfl rfl hr14 ?_
     refine inl1 ?_
     have hst := Stp.ev' (ls := [[b11], [b9], [b2], M]) he14 (mem_flat 0 rfl)
     replace hs_p0_0 := hs_p0_0.step hst
     replace hb2 := he14.box hb2 (hms.apart 2 0 rfl rfl rfl _ mem1)
     replace hc5 := hc5.step hst
     replace hc7 := hc7.step hst
     replace hb9 := he14.box hb9 (hms.apart 1 0 rfl rfl rfl _ mem1)
     replace hms := hms.ev he14
     replace hev := hev.then he14 (fun b hb => .inr (hfr.at 0 rfl b hb))
     replace hb11 := hb14
     refine x_end rfl ?_
     refine t_stop ?_
     have hpk : MS w14 [[b9], [b11], M] := hms.pick [some 1, some 0, some 3] _ rfl
     have hsu : ∀ x ∈ fl [[b9], [b11], M], x ∈ fl [[b11], [b9], [b2], M] := pick_sub [some 1, some 0, some 3] _ rfl
     replace hms := hpk
     replace hfr : FR w.heap.size [[b9], [b11]] := hfr.pick [some 1, some 0] _ rfl
     clear hpk hsu
     exact k_then ⟨(x5.1, x5.2.1, x5.2.2.1, x5.2.2.2, x7.1, x7.2.1, x7.2.2.1, x7.2.2.2, b9, b11), ⟨rfl, rfl, rfl, rfl, trivial⟩, h, hev, hms, hfr, hb9, hb11⟩
   refine t_alt _ rfl ?_ ?_
   · refine x_alloc (z := .agg #[Vi 0, Vi 0, Vi 0, Vi 0]) rfl rfl (by kernel_rfl) (fun b9 w9 hq9 hb9 he9 hz9 => ?_)
     replace hb9 : w9.heap[b9]? = some (.cells #[Vi 0, Vi 0, Vi 0, Vi 0] 79 (0, 0)) := hb9
     refine ⟨.inr (he9.nil), ?_⟩
     have hns9 : w9.heap.size = b9 + 1 := hz9
     have hnb9 : b9 = ((w2).drew).heap.size + 0 := by omega
     replace hnz : w9.heap.size = ((w2).drew).heap.size + 1 := by omega
     have hst := Stp.box (ls := [[b2], M]) he9 hq9
     replace hs_p0_0 := hs_p0_0.step hst
     replace hb2 := he9.box hb2 nn
     replace hc5 := hc5.step hst
     replace hc7 := hc7.step hst
     replace hms := hms.box he9 hq9 hb9
     replace hfr := hfr.box hev.size hq9
     replace hev := hev.ext he9
     refine x_alloc (z := .agg #[Vi 0, Vi 0, Vi 0, Vi 0]) rfl rfl (by kernel_rfl) (fun b11 w11 hq11 hb11 he11 hz11 => ?_)
     replace hb11 : w11.heap[b11]? = some (.cells #[Vi 0, Vi 0, Vi 0, Vi 0] 79 (0, 0)) := hb11
     refine ⟨.inr (he11.nil), ?_⟩
     have hns11 : w11.heap.size = b11 + 1 := hz11
     have hnb11 : b11 = ((w2).drew).heap.size + 1 := by omega
     replace hnz : w11.heap.size = ((w2).drew).heap.size + 2 := by omega
     have hst := Stp.box (ls := [[b9], [b2], M]) he11 hq11
     replace hs_p0_0 := hs_p0_0.step hst
     replace hb2 := he11.box hb2 nn
     replace hc5 := hc5.step hst
     replace hc7 := hc7.step hst
     replace hb9 := he11.box hb9 nn
     replace hms := hms.box he11 hq11 hb11
     replace hfr := hfr.box hev.size hq11
     replace hev := hev.ext he11
     obtain ⟨w13, hr13, hb13, he13⟩ := store_boxagg 0 [Vi x5.1, Vi x5.2.1, Vi x5.2.2.1, Vi x5.2.2.2] #[Vi x5.1, Vi x5.2.1, Vi x5.2.2.1, Vi x5.2.2.2] tagg79 hb11 rfl rfl rfl
     refine x_store w13 (xv := Vp b11 0) (yv := .agg #[Vi x5.1, Vi x5.2.1, Vi x5.2.2.1, Vi x5.2.2.2]) rfl rfl rfl rfl hr13 ?_
     refine ⟨.inr (he13.sub (fun x hx => by simp only [List.mem_singleton] at hx; subst hx; exact newmo_mem hnb11 rfl)), ?_⟩
     have hst := Stp.ev' (ls := [[b11], [b9], [b2], M]) he13 (mem_flat 0 rfl)
     replace hs_p0_0 := hs_p0_0.step hst
     replace hb2 := he13.box hb2 (hms.apart 2 0 rfl rfl rfl _ mem1)
     replace hc5 := hc5.step hst
     replace hc7 := hc7.step hst
     replace hb9 := he13.box hb9 (hms.apart 1 0 rfl rfl rfl _ mem1)
     replace hms := hms.ev he13
     replace hev := hev.then he13 (fun b hb => .inr (hfr.at 0 rfl b hb))
     replace hb11 := hb13
     obtain ⟨w14, hr14, hb14, he14⟩ := store_boxagg 0 [Vi x7.1, Vi x7.2.1, Vi x7.2.2.1, Vi x7.2.2.2] #[Vi x7.1, Vi x7.2.1, Vi x7.2.2.1, Vi x7.2.2.2] tagg79 hb9 rfl rfl rfl
     refine x_store w14 (xv := Vp b9 0) (yv := .agg #[Vi x7.1, Vi x7.2.1, Vi x7.2.2.1, Vi x7.2.2.2]) rfl rfl rfl rfl hr14 ?_
     refine inl1 ?_
     have hst := Stp.ev' (ls := [[b11], [b9], [b2], M]) he14 (mem_flat 1 rfl)
     replace hs_p0_0 := hs_p0_0.step hst
     replace hb2 := he14.box hb2 (hms.apart 2 1 rfl rfl rfl _ mem1)
     replace hc5 := hc5.step hst
     replace hc7 := hc7.step hst
     replace hb11 := he14.box hb11 (hms.apart 0 1 rfl rfl rfl _ mem1)
     replace hms := hms.ev he14
     replace hev := hev.then he14 (fun b hb => .inr (hfr.at 1 rfl b hb))
     replace hb9 := hb14
     refine x_end rfl ?_
     refine t_stop ?_
     have hpk : MS w14 [[b11], [b9], M] := hms.pick [some 0, some 1, some 3] _ rfl
     have hsu : ∀ x ∈ fl [[b11], [b9], M], x ∈ fl [[b11], [b9], [b2], M] := pick_sub [some 0, some 1, some 3] _ rfl
     replace hms := hpk
     replace hfr : FR w.heap.size [[b11], [b9]] := hfr.pick [some 0, some 1] _ rfl
     clear hpk hsu
     exact k_then ⟨(x5.1, x5.2.1, x5.2.2.1, x5.2.2.2, x7.1, x7.2.1, x7.2.2.1, x7.2.2.2, b11, b9), ⟨rfl, rfl, rfl, rfl, trivial⟩, h, hev, hms, hfr, hb11, hb9⟩
   exact t_none
 rintro ⟨e10_j4_0, e10_j4_1, e10_j4_2, e10_j4_3, e12_j4_0, e12_j4_1, e12_j4_2, e12_j4_3, b10_j4, b12_j4⟩ J wj4 ⟨h, hev, hms, hfr, hb10_j4, hb12_j4⟩
 refine c_seq ?_
 refine c_block ?_
 refine c_join (σ := Bool) (fun s => match s with | t19__s19_j9 => [(1, Vi p1), (2, Vi p2), (19, .bool t19__s19_j9)]) (fun s w' => match s with | t19__s19_j9 => job_relation_J9 p1 p2 t19__s19_j9 = some r ∧ Ev [] w w' ∧ MS w' [M] ∧ FR w.heap.size []) ?_ ?_
 · refine c_plain ?_
   refine x_fieldAddr (xv := Vp b10_j4 0) (Vp b10_j4 0) rfl rfl rfl (reads_field tfld79_0 _ _) ?_
   refine x_load (xv := Vp b10_j4 0) (Vi e10_j4_0) rfl rfl rfl (reads_box tcell3 hb10_j4 nn 0 _ rfl) ?_
   refine x_fieldAddr (xv := Vp b12_j4 0) (Vp b12_j4 0) rfl rfl rfl (reads_field tfld79_0 _ _) ?_
   refine x_load (xv := Vp b12_j4 0) (Vi e12_j4_0) rfl rfl rfl (reads_box tcell3 hb12_j4 nn 0 _ rfl) ?_
   refine x_pure 2 [(24, .bool (e10_j4_0 != e12_j4_0)), (25, .bool (e10_j4_0 != e12_j4_0))] _ _ _ (by kernel_rfl) ?_
   refine x_split 25 (e10_j4_0 != e12_j4_0) rfl (fun hb => ?_) (fun hb => ?_)
   · replace h := ite_t hb h
     refine x_pure 7 [(26, undef), (27, undef), (28, undef), (29, undef), (30, undef), (31, .bool true), (19, .bool true)] _ _ _ (by kernel_rfl) ?_
     refine x_end rfl ?_
     have hpk : MS wj4 [M] := hms.pick [some 2] _ rfl
     have hsu : ∀ x ∈ fl [M], x ∈ fl [[b10_j4], [b12_j4], M] := pick_sub [some 2] _ rfl
     replace hms := hpk
     replace hfr : FR w.heap.size [] := hfr.pick [] _ rfl
     clear hpk hsu
     exact k_then ⟨true, ⟨rfl, rfl, rfl, trivial⟩, h, hev, hms, hfr⟩
   replace h := ite_f hb h
   refine x_fieldAddr (xv := Vp b10_j4 0) (Vp b10_j4 1) rfl rfl rfl (reads_field tfld79_1 _ _) ?_
   refine x_load (xv := Vp b10_j4 1) (Vi e10_j4_1) rfl rfl rfl (reads_box tcell3 hb10_j4 nn 1 _ rfl) ?_
   refine x_fieldAddr (xv := Vp b12_j4 0) (Vp b12_j4 1) rfl rfl rfl (reads_field tfld79_1 _ _) ?_
   refine x_load (xv := Vp b12_j4 1) (Vi e12_j4_1) rfl rfl rfl (reads_box tcell3 hb12_j4 nn 1 _ rfl) ?_
   refine x_pure 3 [(30, .bool (decide (e10_j4_1 ≥ e12_j4_1))), (31, .bool (decide (e10_j4_1 ≥ e12_j4_1))), (19, .bool (decide (e10_j4_1 ≥ e12_j4_1)))] _ _ _ (by kernel_rfl) ?_
   refine x_end rfl ?_
   have hpk : MS wj4 [M] := hms.pick [some 2] _ rfl
   have hsu : ∀ x ∈ fl [M], x ∈ fl [[b10_j4], [b12_j4], M] := pick_sub [some 2] _ rfl
   replace hms := hpk
   replace hfr : FR w.heap.size [] := hfr.pick [] _ rfl
   clear hpk hsu
   exact k_then ⟨decide (e10_j4_1 ≥ e12_j4_1), ⟨rfl, rfl, rfl, trivial⟩, h, hev, hms, hfr⟩
 rintro t19__s19_j9 J wj9 ⟨h, hev, hms, hfr⟩
 refine c_cond t19__s19_j9 rfl (fun hb => ?_) (fun hb => ?_)
 · replace h := ite_t hb h
   refine c_sp ?_
   refine x_pure 1 [(6, Vi 0)] _ _ _ (by kernel_rfl) ?_
   refine x_ek ?_
   refine c_norm [(6, Vi 0)] ⟨rfl, trivial⟩ (fun J => ?_)
   refine c_ret ?_
   refine k_block_ret ?_
   refine k_then_ret ?_
   refine r_ret (r_vals [Vi 0] ⟨rfl, trivial⟩ ?_)
   have hx := some_inj h
   subst hx
   have hmr : MS wj9 [M] := hms.pick [some 0] _ rfl
   have hsu : ∀ x ∈ fl [M], x ∈ fl [M] := pick_sub [some 0] _ rfl
   exact ⟨rfl, hev⟩
 replace h := ite_f hb h
 refine c_sp ?_
 refine x_pure 4 [(33, Vi p2), (34, Vi p1), (35, .bool (decide (p2 < p1))), (32, .bool (decide (p2 < p1)))] _ _ _ (by kernel_rfl) ?_
 refine x_ek ?_
 refine c_norm [(32, .bool (decide (p2 < p1)))] ⟨rfl, trivial⟩ (fun J => ?_)
 refine c_cond (decide (p2 < p1)) rfl (fun hb => ?_) (fun hb => ?_)
 · replace h := ite_t hb h
   refine c_sp ?_
   refine x_pure 1 [(6, Vi 2)] _ _ _ (by kernel_rfl) ?_
   refine x_ek ?_
   refine c_ret ?_
   refine k_block_ret ?_
   refine k_then_ret ?_
   refine r_ret (r_vals [Vi 2] ⟨rfl, trivial⟩ ?_)
   have hx := some_inj h
   subst hx
   have hmr : MS wj9 [M] := hms.pick [some 0] _ rfl
   have hsu : ∀ x ∈ fl [M], x ∈ fl [M] := pick_sub [some 0] _ rfl
   exact ⟨rfl, hev⟩
 replace h := ite_f hb h
 refine c_skip ?_
 refine k_block ?_
 refine k_then ?_
 refine c_sp ?_
 refine x_pure 1 [(6, Vi 1)] _ _ _ (by kernel_rfl) ?_
 refine x_ek ?_
 refine c_ret ?_
 refine r_ret (r_vals [Vi 1] ⟨rfl, trivial⟩ ?_)
 have hx := some_inj h
 subst hx
 have hmr : MS wj9 [M] := hms.pick [some 0] _ rfl
 have hsu : ∀ x ∈ fl [M], x ∈ fl [M] := pick_sub [some 0] _ rfl
 exact ⟨rfl, hev⟩
def job_Relation (p0_0 : List (Int × Int × Int × Int)) (p0_1 : Int) (p1 : Int) (p2 : Int) : Option (Int × Int) :=
((job_Valid p0_0 p0_1).bind fun x5 =>
(if (x5 != 0) = true then
some (0, x5)
else
((job_in p1 0 (IntKind.i64.wrap (((p0_0).length : Int) - 1))).bind fun x8 =>
(if (!x8) = true then
some (0, 2)
else
((job_in p2 0 (IntKind.i64.wrap (((p0_0).length : Int) - 1))).bind fun x10 =>
(if (!x10) = true then
some (0, 2)
else
((job_relation p0_0 p0_1 p1 p2).bind fun x12 =>
some (x12, 0))))))))

theorem job_Relation_w (a_p0_0 : Option Addr) (c_p0_0 : Nat) (p0_0 : List (Int × Int × Int × Int)) (p0_1 : Int) (p1 : Int) (p2 : Int) (r : Int × Int) (w : World) (M : List Nat) (hms : MS w [M]) (hs_p0_0 : SlR (eIt4) w (fl [M]) a_p0_0 c_p0_0 p0_0) (h : job_Relation p0_0 p0_1 p1 p2 = some r) : CallVC Try.prog 39 [.agg #[.slice a_p0_0 (p0_0).length c_p0_0, Vi p0_1], Vi p1, Vi p2] w fun v w' => v = .tuple #[Vi r.1, Vi r.2] ∧ Ev [] w w' := by
 refine calls_vc hmx Try.func39 (by kernel_rfl) rfl (rs := [.tmp 6, .tmp 7]) rfl (by kernel_rfl) (args := [.agg #[.slice a_p0_0 (p0_0).length c_p0_0, Vi p0_1], Vi p1, Vi p2]) rfl ?_
 have hev : Ev [] w w := Ev.refl _ _
 have hfr : FR w.heap.size [] := FR.nil _
 refine c_sp ?_
 refine x_box (xv := .agg #[.slice a_p0_0 (p0_0).length c_p0_0, Vi p0_1]) rfl rfl rfl (fun b2 w2 hq2 hb2 he2 hz2 => ?_)
 replace hb2 : w2.heap[b2]? = some (.cells #[.slice a_p0_0 (p0_0).length c_p0_0, Vi p0_1] 25 (0, 0)) := hb2
 refine inl1 ?_
 have hst := Stp.box (ls := [M]) he2 hq2
 replace hs_p0_0 := hs_p0_0.step hst
 replace hms := hms.box he2 hq2 hb2
 replace hfr := hfr.box hev.size hq2
 replace hev := hev.ext he2
 refine x_pure 2 [(6, Vi 0), (7, Vi 0)] _ _ _ (by kernel_rfl) ?_
 refine x_ek ?_
 refine c_seq ?_
 refine c_sp ?_
 refine x_load (xv := Vp b2 0) (.agg #[.slice a_p0_0 (p0_0).length c_p0_0, Vi p0_1]) rfl rfl rfl (reads_boxagg 0 [.slice a_p0_0 (p0_0).length c_p0_0, Vi p0_1] tagg25 hb2 nn rfl) ?_
 obtain ⟨x5, hx, h⟩ := bind_some h
 have hpk : MS w2 ([] ++ [[b2], M]) := hms.pick [some 0, some 1] _ rfl
 have hsb0 : ∀ x ∈ fl ([] ++ [[b2], M]), x ∈ fl [[b2], M] := pick_sub [some 0, some 1] _ rfl
 have hsb : ∀ x ∈ fl ([] ++ [(fl [[b2], M])]), x ∈ fl [[b2], M] := fun x hx => hsb0 x (fl_unfold x hx)
 have hcall := job_Valid_w a_p0_0 c_p0_0 p0_0 p0_1 _ w2 (fl [[b2], M]) (MS.fold (P := []) hpk) (hs_p0_0.sub hsb) hx
 refine x_call 50 #[] #[] [.agg #[.slice a_p0_0 (p0_0).length c_p0_0, Vi p0_1]] _ rfl rfl rfl rfl hcall ?_
 rintro v w6 ⟨rfl, he6⟩
 clear hcall hx
 refine inl1 ?_
 have hst := Stp.ext (ls := [[b2], M]) he6
 replace hs_p0_0 := hs_p0_0.step hst
 replace hb2 := he6.box hb2 nn
 replace hms := hms.ev he6
 replace hev := hev.ext he6
 clear hpk hsb hsb0
 refine x_pure 1 [(8, Vi x5)] _ _ _ (by kernel_rfl) ?_
 refine x_ek ?_
 refine c_sp ?_
 refine x_pure 2 [(11, Vi x5), (12, .bool (x5 != 0))] _ _ _ (by kernel_rfl) ?_
 refine x_ek ?_
 refine c_cond (x5 != 0) rfl (fun hb => ?_) (fun hb => ?_)
 · replace h := ite_t hb h
   refine c_sp ?_
   refine x_pure 3 [(13, Vi x5), (6, Vi 0), (7, Vi x5)] _ _ _ (by kernel_rfl) ?_
   refine x_ek ?_
   refine c_ret ?_
   refine k_then_ret ?_
   refine r_ret (r_vals [Vi 0, Vi x5] ⟨rfl, rfl, trivial⟩ ?_)
   have hx := some_inj h
   subst hx
   have hmr : MS w6 [M] := hms.pick [some 1] _ rfl
   have hsu : ∀ x ∈ fl [M], x ∈ fl [[b2], M] := pick_sub [some 1] _ rfl
   exact ⟨rfl, hev⟩
 replace h := ite_f hb h
 refine c_skip ?_
 refine k_then ?_
 refine c_seq ?_
 refine c_sp ?_
 refine x_pure 1 [(14, Vi p1)] _ _ _ (by kernel_rfl) ?_
 refine x_fieldAddr (xv := Vp b2 0) (Vp b2 0) rfl rfl rfl (reads_field tfld25_0 _ _) ?_
 refine x_load (xv := Vp b2 0) (.slice a_p0_0 (p0_0).length c_p0_0) rfl rfl rfl (reads_box tcell23 hb2 nn 0 _ rfl) ?_
 refine x_len (vs := [.slice a_p0_0 (p0_0).length c_p0_0]) (Vi ((p0_0).length : Int)) rfl rfl rfl (reads_len tsl23 _ _ _ _ _) ?_
 refine x_pure 1 [(18, Vi (IntKind.i64.wrap (((p0_0).length : Int) - 1)))] _ _ _ (by kernel_rfl) ?_
 obtain ⟨x8, hx, h⟩ := bind_some h
 have hcall := job_in_w p1 0 (IntKind.i64.wrap (((p0_0).length : Int) - 1)) _ w6 hx
 refine x_call 51 #[] #[] [Vi p1, Vi 0, Vi (IntKind.i64.wrap (((p0_0).length : Int) - 1))] _ rfl rfl rfl rfl hcall ?_
 rintro v w9 ⟨rfl, he9⟩
 clear hcall hx
 refine inl1 ?_
 have hst := Stp.ext (ls := [[b2], M]) he9
 replace hs_p0_0 := hs_p0_0.step hst
 replace hb2 := he9.box hb2 nn
 replace hms := hms.ev he9
 replace hev := hev.ext he9
 refine x_pure 2 [(20, .bool (!x8)), (21, .bool (!x8))] _ _ _ (by kernel_rfl) ?_
 refine x_split 21 (!x8) rfl (fun hb => ?_) (fun hb => ?_)
 · replace h := ite_t hb h
   refine x_pure 8 [(22, undef), (23, undef), (24, undef), (25, undef), (26, undef), (27, undef), (28, undef), (29, .bool true)] _ _ _ (by kernel_rfl) ?_
   refine x_ek ?_
   refine c_norm [(1, Vi p1), (2, Vi p2), (3, Vp b2 0), (29, .bool true)] ⟨rfl, rfl, rfl, rfl, trivial⟩ (fun J => ?_)
   refine c_true rfl ?_
   refine c_sp ?_
   refine x_pure 2 [(6, Vi 0), (7, Vi 2)] _ _ _ (by kernel_rfl) ?_
   refine x_ek ?_
   refine c_ret ?_
   refine k_then_ret ?_
   refine r_ret (r_vals [Vi 0, Vi 2] ⟨rfl, rfl, trivial⟩ ?_)
   have hx := some_inj h
   subst hx
   have hmr : MS w9 [M] := hms.pick [some 1] _ rfl
   have hsu : ∀ x ∈ fl [M], x ∈ fl [[b2], M] := pick_sub [some 1] _ rfl
   exact ⟨rfl, hev⟩
 replace h := ite_f hb h
 refine x_pure 1 [(22, Vi p2)] _ _ _ (by kernel_rfl) ?_
 refine x_fieldAddr (xv := Vp b2 0) (Vp b2 0) rfl rfl rfl (reads_field tfld25_0 _ _) ?_
 refine x_load (xv := Vp b2 0) (.slice a_p0_0 (p0_0).length c_p0_0) rfl rfl rfl (reads_box tcell23 hb2 nn 0 _ rfl) ?_
 refine x_len (vs := [.slice a_p0_0 (p0_0).length c_p0_0]) (Vi ((p0_0).length : Int)) rfl rfl rfl (reads_len tsl23 _ _ _ _ _) ?_
 refine x_pure 1 [(26, Vi (IntKind.i64.wrap (((p0_0).length : Int) - 1)))] _ _ _ (by kernel_rfl) ?_
 obtain ⟨x10, hx, h⟩ := bind_some h
 have hcall := job_in_w p2 0 (IntKind.i64.wrap (((p0_0).length : Int) - 1)) _ w9 hx
 refine x_call 51 #[] #[] [Vi p2, Vi 0, Vi (IntKind.i64.wrap (((p0_0).length : Int) - 1))] _ rfl rfl rfl rfl hcall ?_
 rintro v w11 ⟨rfl, he11⟩
 clear hcall hx
 refine inl1 ?_
 have hst := Stp.ext (ls := [[b2], M]) he11
 replace hs_p0_0 := hs_p0_0.step hst
 replace hb2 := he11.box hb2 nn
 replace hms := hms.ev he11
 replace hev := hev.ext he11
 refine x_pure 2 [(28, .bool (!x10)), (29, .bool (!x10))] _ _ _ (by kernel_rfl) ?_
 refine x_ek ?_
 refine c_norm [(1, Vi p1), (2, Vi p2), (3, Vp b2 0), (29, .bool (!x10))] ⟨rfl, rfl, rfl, rfl, trivial⟩ (fun J => ?_)
 refine c_cond (!x10) rfl (fun hb => ?_) (fun hb => ?_)
 · replace h := ite_t hb h
   refine c_sp ?_
   refine x_pure 2 [(6, Vi 0), (7, Vi 2)] _ _ _ (by kernel_rfl) ?_
   refine x_ek ?_
   refine c_ret ?_
   refine k_then_ret ?_
   refine r_ret (r_vals [Vi 0, Vi 2] ⟨rfl, rfl, trivial⟩ ?_)
   have hx := some_inj h
   subst hx
   have hmr : MS w11 [M] := hms.pick [some 1] _ rfl
   have hsu : ∀ x ∈ fl [M], x ∈ fl [[b2], M] := pick_sub [some 1] _ rfl
   exact ⟨rfl, hev⟩
 replace h := ite_f hb h
 refine c_skip ?_
 refine k_then ?_
 refine c_sp ?_
 refine x_load (xv := Vp b2 0) (.agg #[.slice a_p0_0 (p0_0).length c_p0_0, Vi p0_1]) rfl rfl rfl (reads_boxagg 0 [.slice a_p0_0 (p0_0).length c_p0_0, Vi p0_1] tagg25 hb2 nn rfl) ?_
 refine x_pure 2 [(31, Vi p1), (32, Vi p2)] _ _ _ (by kernel_rfl) ?_
 obtain ⟨x12, hx, h⟩ := bind_some h
 have hpk : MS w11 ([] ++ [[b2], M]) := hms.pick [some 0, some 1] _ rfl
 have hsb0 : ∀ x ∈ fl ([] ++ [[b2], M]), x ∈ fl [[b2], M] := pick_sub [some 0, some 1] _ rfl
 have hsb : ∀ x ∈ fl ([] ++ [(fl [[b2], M])]), x ∈ fl [[b2], M] := fun x hx => hsb0 x (fl_unfold x hx)
 have hcall := job_relation_w a_p0_0 c_p0_0 p0_0 p0_1 p1 p2 _ w11 (fl [[b2], M]) (MS.fold (P := []) hpk) (hs_p0_0.sub hsb) hx
 refine x_call 62 #[] #[] [.agg #[.slice a_p0_0 (p0_0).length c_p0_0, Vi p0_1], Vi p1, Vi p2] _ rfl rfl rfl rfl hcall ?_
 rintro v w13 ⟨rfl, he13⟩
 clear hcall hx
 refine inl1 ?_
 have hst := Stp.ext (ls := [[b2], M]) he13
 replace hs_p0_0 := hs_p0_0.step hst
 replace hb2 := he13.box hb2 nn
 replace hms := hms.ev he13
 replace hev := hev.ext he13
 clear hpk hsb hsb0
 refine x_pure 2 [(6, Vi x12), (7, Vi 0)] _ _ _ (by kernel_rfl) ?_
 refine x_ek ?_
 refine c_ret ?_
 refine r_ret (r_vals [Vi x12, Vi 0] ⟨rfl, rfl, trivial⟩ ?_)
 have hx := some_inj h
 subst hx
 have hmr : MS w13 [M] := hms.pick [some 1] _ rfl
 have hsu : ∀ x ∈ fl [M], x ∈ fl [[b2], M] := pick_sub [some 1] _ rfl
 exact ⟨rfl, hev⟩
def job_Sorted_L17 (p0_0 : List (Int × Int × Int × Int)) (t24__s24_l11 : Int) (x13 : List Int) (s : (List Bool) × Int × Int) : Option (Step ((List Bool) × Int × Int) (Unit ⊕ ((List Bool) × Int))) :=
match s with
| (d9_l17, n_s8_l17, t31__s31_l17) =>
(if (decide (t31__s31_l17 < ((x13).length : Int))) = true then
((idx x13 t31__s31_l17).bind fun x19 =>
((job_in x19 0 (IntKind.i64.wrap (((p0_0).length : Int) - 1))).bind fun x21 =>
(if (!x21) = true then
some (.done (.inl ()))
else
((idx d9_l17 x19).bind fun x23 =>
(if x23 = true then
some (.done (.inl ()))
else
((idx p0_0 x19).bind fun x25 =>
(if (x25.1 != t24__s24_l11) = true then
some (.done (.inl ()))
else
(if (decide (t31__s31_l17 > 0)) = true then
((idx p0_0 x19).bind fun x27 =>
((idx x13 (IntKind.i64.wrap (t31__s31_l17 - 1))).bind fun x29 =>
((idx p0_0 x29).bind fun x31 =>
(if (decide (x27.2.1 < x31.2.1)) = true then
some (.done (.inl ()))
else
((idx d9_l17 x19).bind fun x33 =>
some (.next ((d9_l17.set (Int.toNat x19) true), IntKind.i64.wrap (n_s8_l17 + 1), IntKind.i64.wrap (t31__s31_l17 + 1))))))))
else
((idx d9_l17 x19).bind fun x36 =>
some (.next ((d9_l17.set (Int.toNat x19) true), IntKind.i64.wrap (n_s8_l17 + 1), IntKind.i64.wrap (t31__s31_l17 + 1))))))))))))
else
some (.done (.inr (d9_l17, n_s8_l17))))

def job_Sorted_L11 (p0_0 : List (Int × Int × Int × Int)) (p1 : List (List Int)) (s : (List Bool) × Int × Int) : Option (Step ((List Bool) × Int × Int) (Unit ⊕ Int)) :=
match s with
| (d9_l11, n_s8_l11, t24__s24_l11) =>
(if (decide (t24__s24_l11 < ((p1).length : Int))) = true then
((idx p1 t24__s24_l11).bind fun x13 =>
((loop (job_Sorted_L17 p0_0 t24__s24_l11 x13) (d9_l11, n_s8_l11, 0)).bind fun d => match d with
| (.inl _) => some (.done (.inl ()))
| (.inr (d9_x1701, n_s8_x1701)) => some (.next (d9_x1701, n_s8_x1701, IntKind.i64.wrap (t24__s24_l11 + 1)))))
else
some (.done (.inr n_s8_l11)))

def job_Sorted (p0_0 : List (Int × Int × Int × Int)) (p0_1 : Int) (p1 : List (List Int)) : Option (Bool × Int) :=
((job_Valid p0_0 p0_1).bind fun x6 =>
(if (x6 != 0) = true then
some (false, x6)
else
(if (0 : Int) ≤ ((p0_0).length : Int) ∧ (((p0_0).length : Int) : Int) ≤ 4294967296 then
((loop (job_Sorted_L11 p0_0 p1) ((List.replicate (Int.toNat ((p0_0).length : Int)) false : List Bool), 0, 0)).bind fun d => match d with
| (.inl _) => some (false, 0)
| (.inr n_s8_x1101) => some (n_s8_x1101 == ((p0_0).length : Int), 0))
else none)))

theorem job_Sorted_w (a_p0_0 : Option Addr) (c_p0_0 : Nat) (p0_0 : List (Int × Int × Int × Int)) (p0_1 : Int) (a_p1 : Option Addr) (c_p1 : Nat) (p1 : List (List Int)) (r : Bool × Int) (w : World) (M : List Nat) (hms : MS w [M]) (hs_p0_0 : SlR (eIt4) w (fl [M]) a_p0_0 c_p0_0 p0_0) (hs_p1 : SlR (eSl (eInt .i64)) w (fl [M]) a_p1 c_p1 p1) (h : job_Sorted p0_0 p0_1 p1 = some r) : CallVC Try.prog 28 [.agg #[.slice a_p0_0 (p0_0).length c_p0_0, Vi p0_1], .slice a_p1 (p1).length c_p1] w fun v w' => v = .tuple #[.bool r.1, Vi r.2] ∧ Ev [] w w' := by
 refine calls_vc hmx Try.func28 (by kernel_rfl) rfl (rs := [.tmp 4, .tmp 5]) rfl (by kernel_rfl) (args := [.agg #[.slice a_p0_0 (p0_0).length c_p0_0, Vi p0_1], .slice a_p1 (p1).length c_p1]) rfl ?_
 have hev : Ev [] w w := Ev.refl _ _
 have hfr : FR w.heap.size [] := FR.nil _
 refine c_sp ?_
 refine x_box (xv := .agg #[.slice a_p0_0 (p0_0).length c_p0_0, Vi p0_1]) rfl rfl rfl (fun b3 w3 hq3 hb3 he3 hz3 => ?_)
 replace hb3 : w3.heap[b3]? = some (.cells #[.slice a_p0_0 (p0_0).length c_p0_0, Vi p0_1] 25 (0, 0)) := hb3
 refine inl1 ?_
 have hst := Stp.box (ls := [M]) he3 hq3
 replace hs_p0_0 := hs_p0_0.step hst
 replace hs_p1 := hs_p1.step hst
 replace hms := hms.box he3 hq3 hb3
 replace hfr := hfr.box hev.size hq3
 replace hev := hev.ext he3
 refine x_pure 2 [(4, .bool false), (5, Vi 0)] _ _ _ (by kernel_rfl) ?_
 refine x_ek ?_
 refine c_seq ?_
 refine c_sp ?_
 refine x_load (xv := Vp b3 0) (.agg #[.slice a_p0_0 (p0_0).length c_p0_0, Vi p0_1]) rfl rfl rfl (reads_boxagg 0 [.slice a_p0_0 (p0_0).length c_p0_0, Vi p0_1] tagg25 hb3 nn rfl) ?_
 obtain ⟨x6, hx, h⟩ := bind_some h
 have hpk : MS w3 ([] ++ [[b3], M]) := hms.pick [some 0, some 1] _ rfl
 have hsb0 : ∀ x ∈ fl ([] ++ [[b3], M]), x ∈ fl [[b3], M] := pick_sub [some 0, some 1] _ rfl
 have hsb : ∀ x ∈ fl ([] ++ [(fl [[b3], M])]), x ∈ fl [[b3], M] := fun x hx => hsb0 x (fl_unfold x hx)
 have hcall := job_Valid_w a_p0_0 c_p0_0 p0_0 p0_1 _ w3 (fl [[b3], M]) (MS.fold (P := []) hpk) (hs_p0_0.sub hsb) hx
 refine x_call 50 #[] #[] [.agg #[.slice a_p0_0 (p0_0).length c_p0_0, Vi p0_1]] _ rfl rfl rfl rfl hcall ?_
 rintro v w7 ⟨rfl, he7⟩
 clear hcall hx
 refine inl1 ?_
 have hst := Stp.ext (ls := [[b3], M]) he7
 replace hs_p0_0 := hs_p0_0.step hst
 replace hs_p1 := hs_p1.step hst
 replace hb3 := he7.box hb3 nn
 replace hms := hms.ev he7
 replace hev := hev.ext he7
 clear hpk hsb hsb0
 refine x_pure 1 [(6, Vi x6)] _ _ _ (by kernel_rfl) ?_
 refine x_ek ?_
 refine c_sp ?_
 refine x_pure 2 [(15, Vi x6), (16, .bool (x6 != 0))] _ _ _ (by kernel_rfl) ?_
 refine x_ek ?_
 refine c_cond (x6 != 0) rfl (fun hb => ?_) (fun hb => ?_)
 · replace h := ite_t hb h
   refine c_sp ?_
   refine x_pure 3 [(17, Vi x6), (4, .bool false), (5, Vi x6)] _ _ _ (by kernel_rfl) ?_
   refine x_ek ?_
   refine c_ret ?_
   refine k_then_ret ?_
   refine r_ret (r_vals [.bool false, Vi x6] ⟨rfl, rfl, trivial⟩ ?_)
   have hx := some_inj h
   subst hx
   have hmr : MS w7 [M] := hms.pick [some 1] _ rfl
   have hsu : ∀ x ∈ fl [M], x ∈ fl [[b3], M] := pick_sub [some 1] _ rfl
   exact ⟨rfl, hev⟩
 replace h := ite_f hb h
 refine c_skip ?_
 refine k_then ?_
 refine c_sp ?_
 refine x_fieldAddr (xv := Vp b3 0) (Vp b3 0) rfl rfl rfl (reads_field tfld25_0 _ _) ?_
 refine x_load (xv := Vp b3 0) (.slice a_p0_0 (p0_0).length c_p0_0) rfl rfl rfl (reads_box tcell23 hb3 nn 0 _ rfl) ?_
 refine x_len (vs := [.slice a_p0_0 (p0_0).length c_p0_0]) (Vi ((p0_0).length : Int)) rfl rfl rfl (reads_len tsl23 _ _ _ _ _) ?_
 have hg := guard_l h
 replace h := guard_r h
 obtain ⟨a8, c8, w8, hr8, he8, hn8, hw8⟩ := own_make (e := eBool) tel89 w7 ((p0_0).length : Int) hg.1 hg.2 false (fun _ _ => rfl)
 refine x_makeSlice _ w8 (xv := Vi ((p0_0).length : Int)) (yv := Vi ((p0_0).length : Int)) rfl rfl rfl rfl hr8 ?_
 refine inl1 ?_
 have hst := Stp.push (ls := [[b3], M]) (l := blk a8) he8 (fun _ h => by cases h) (fun b hb => (hn8 b hb).1)
 replace hs_p0_0 := hs_p0_0.step hst
 replace hs_p1 := hs_p1.step hst
 replace hb3 := he8.box hb3 nn
 replace hms := hms.push he8 hn8
 replace hfr := hfr.push (fun b hb => Nat.le_trans hev.size (hn8 b hb).1)
 replace hev := hev.ext he8
 have ho8 := hw8 (fl [blk a8, [b3], M])
 clear hw8
 refine x_pure 1 [(7, .slice a8 ((List.replicate (Int.toNat ((p0_0).length : Int)) false : List Bool)).length c8)] _ _ _ (by kernel_rfl) ?_
 refine x_ek ?_
 refine c_norm [(1, .slice a_p1 (p1).length c_p1), (2, Vp b3 0), (7, .slice a8 ((List.replicate (Int.toNat ((p0_0).length : Int)) false : List Bool)).length c8)] ⟨rfl, rfl, rfl, trivial⟩ (fun J => ?_)
 refine c_sp ?_
 refine x_pure 1 [(8, Vi 0)] _ _ _ (by kernel_rfl) ?_
 refine x_ek ?_
 refine c_seq ?_
 refine c_sp ?_
 refine x_pure 1 [(22, .slice a_p1 (p1).length c_p1)] _ _ _ (by kernel_rfl) ?_
 refine x_len (vs := [.slice a_p1 (p1).length c_p1]) (Vi ((p1).length : Int)) rfl rfl rfl (reads_len tsl42 _ _ _ _ _) ?_
 refine x_pure 1 [(24, Vi 0)] _ _ _ (by kernel_rfl) ?_
 refine x_ek ?_
 refine c_block ?_
 have hpk : MS w8 [[b3], blk a8, M] := hms.pick [some 1, some 0, some 2] _ rfl
 have hsu : ∀ x ∈ fl [[b3], blk a8, M], x ∈ fl [blk a8, [b3], M] := pick_sub [some 1, some 0, some 2] _ rfl
 replace hs_p0_0 := hs_p0_0.sub hsu
 replace ho8 := ho8.sub hsu
 replace hs_p1 := hs_p1.sub hsu
 replace hms := hpk
 replace hfr : FR w.heap.size [[b3], blk a8] := hfr.pick [some 1, some 0] _ rfl
 clear hpk hsu
 obtain ⟨d11, hd11, h11⟩ := bind_some h
 obtain ⟨m11, hd11⟩ := loop_some hd11
 refine c_loop (loop_rule hmx (σ := Nat × (List Bool) × Int × Int × Option Addr) (fun s => match s with | (_, d9_l11, n_s8_l11, t24__s24_l11, a9_l11) => [(2, Vp b3 0), (7, .slice a9_l11 (d9_l11).length c8), (8, Vi n_s8_l11), (22, .slice a_p1 (p1).length c_p1), (23, Vi ((p1).length : Int)), (24, Vi t24__s24_l11)]) (fun s w' => match s with | (m, d9_l11, n_s8_l11, t24__s24_l11, a9_l11) => loopN (job_Sorted_L11 p0_0 p1) m (d9_l11, n_s8_l11, t24__s24_l11) = some d11 ∧ Ev [] w w' ∧ MS w' [[b3], blk a9_l11, M] ∧ FR w.heap.size [[b3], blk a9_l11] ∧ SlR (eIt4) w' (fl [[b3], blk a9_l11, M]) a_p0_0 c_p0_0 p0_0 ∧ w'.heap[b3]? = some (.cells #[.slice a_p0_0 (p0_0).length c_p0_0, Vi p0_1] 25 (0, 0)) ∧ OwnS eBool 4 w' (fl [[b3], blk a9_l11, M]) a9_l11 c8 d9_l11 ∧ SlR (eSl (eInt .i64)) w' (fl [[b3], blk a9_l11, M]) a_p1 c_p1 p1) (fun s => s.1) (m11, (List.replicate (Int.toNat ((p0_0).length : Int)) false : List Bool), 0, 0, a8) ⟨rfl, rfl, rfl, rfl, rfl, rfl, trivial⟩ ⟨hd11, hev, hms, hfr, hs_p0_0, hb3, ho8, hs_p1⟩ ?_)
 rintro ⟨m11, d9_l11, n_s8_l11, t24__s24_l11, a9_l11⟩ J wl11 ⟨hn11, hev, hms, hfr, hs_p0_0, hb3, ho8, hs_p1⟩
 rcases m11 with _ | m11
 · exact (loopN_zero hn11).elim
 obtain ⟨t11, h, hn11⟩ := bind_some hn11
 refine c_sp ?_
 refine x_pure 1 [(25, .bool (decide (t24__s24_l11 < ((p1).length : Int))))] _ _ _ (by kernel_rfl) ?_
 refine x_ek ?_
 refine c_norm [(2, Vp b3 0), (7, .slice a9_l11 (d9_l11).length c8), (8, Vi n_s8_l11), (22, .slice a_p1 (p1).length c_p1), (23, Vi ((p1).length : Int)), (24, Vi t24__s24_l11), (25, .bool (decide (t24__s24_l11 < ((p1).length : Int))))] ⟨rfl, rfl, rfl, rfl, rfl, rfl, rfl, trivial⟩ (fun J => ?_)
 refine c_seq ?_
 refine c_cond (decide (t24__s24_l11 < ((p1).length : Int))) rfl (fun hb => ?_) (fun hb => ?_)
 · replace h := ite_t hb h
   refine c_skip ?_
   refine k_then ?_
   refine c_seq ?_
   refine c_block ?_
   refine c_sp ?_
   refine x_pure 1 [(26, Vi t24__s24_l11)] _ _ _ (by kernel_rfl) ?_
   obtain ⟨x13, hx13, h⟩ := bind_some h
   obtain ⟨ad13, cs13, hr13, hc13, hR⟩ := reads_index (Mo := []) tsl42 hs_p1 hx13
   obtain ⟨a14, c14, rfl, hs14⟩ := hR
   refine x_indexAddr (xv := .slice a_p1 (p1).length c_p1) (yv := Vi t24__s24_l11) (.pointer (some ad13)) rfl rfl rfl rfl hr13 ?_
   refine x_load (xv := .pointer (some ad13)) (.slice a14 (x13).length c14) rfl rfl rfl (reads_cell0 tcell22 hc13 (fun _ h => by cases h)) ?_
   refine x_pure 2 [(9, Vi t24__s24_l11), (10, .slice a14 (x13).length c14)] _ _ _ (by kernel_rfl) ?_
   refine x_ek ?_
   refine c_sp ?_
   refine x_pure 1 [(29, .slice a14 (x13).length c14)] _ _ _ (by kernel_rfl) ?_
   refine x_len (vs := [.slice a14 (x13).length c14]) (Vi ((x13).length : Int)) rfl rfl rfl (reads_len tsl22 _ _ _ _ _) ?_
   refine x_pure 1 [(31, Vi 0)] _ _ _ (by kernel_rfl) ?_
   refine x_ek ?_
   refine c_block ?_
   obtain ⟨d17, hd17, h17⟩ := bind_some h
   obtain ⟨m17, hd17⟩ := loop_some hd17
   refine c_loop (loop_rule hmx (σ := Nat × (List Bool) × Int × Int × Option Addr) (fun s => match s with | (_, d9_l17, n_s8_l17, t31__s31_l17, a9_l17) => [(2, Vp b3 0), (7, .slice a9_l17 (d9_l17).length c8), (8, Vi n_s8_l17), (9, Vi t24__s24_l11), (10, .slice a14 (x13).length c14), (22, .slice a_p1 (p1).length c_p1), (23, Vi ((p1).length : Int)), (24, Vi t24__s24_l11), (29, .slice a14 (x13).length c14), (30, Vi ((x13).length : Int)), (31, Vi t31__s31_l17)]) (fun s w' => match s with | (m, d9_l17, n_s8_l17, t31__s31_l17, a9_l17) => loopN (job_Sorted_L17 p0_0 t24__s24_l11 x13) m (d9_l17, n_s8_l17, t31__s31_l17) = some d17 ∧ Ev [] w w' ∧ MS w' [[b3], blk a9_l17, M] ∧ FR w.heap.size [[b3], blk a9_l17] ∧ SlR (eIt4) w' (fl [[b3], blk a9_l17, M]) a_p0_0 c_p0_0 p0_0 ∧ w'.heap[b3]? = some (.cells #[.slice a_p0_0 (p0_0).length c_p0_0, Vi p0_1] 25 (0, 0)) ∧ OwnS eBool 4 w' (fl [[b3], blk a9_l17, M]) a9_l17 c8 d9_l17 ∧ SlR (eInt .i64) w' (fl [[b3], blk a9_l17, M]) a14 c14 x13 ∧ SlR (eSl (eInt .i64)) w' (fl [[b3], blk a9_l17, M]) a_p1 c_p1 p1) (fun s => s.1) (m17, d9_l11, n_s8_l11, 0, a9_l11) ⟨rfl, rfl, rfl, rfl, rfl, rfl, rfl, rfl, rfl, rfl, rfl, trivial⟩ ⟨hd17, hev, hms, hfr, hs_p0_0, hb3, ho8, hs14, hs_p1⟩ ?_)
   rintro ⟨m17, d9_l17, n_s8_l17, t31__s31_l17, a9_l17⟩ J wl17 ⟨hn17, hev, hms, hfr, hs_p0_0, hb3, ho8, hs14, hs_p1⟩
   rcases m17 with _ | m17
   · exact (loopN_zero hn17).elim
   obtain ⟨t17, h, hn17⟩ := bind_some hn17
   refine c_sp ?_
   refine x_pure 1 [(32, .bool (decide (t31__s31_l17 < ((x13).length : Int))))] _ _ _ (by kernel_rfl) ?_
   refine x_ek ?_
   refine c_norm [(2, Vp b3 0), (7, .slice a9_l17 (d9_l17).length c8), (8, Vi n_s8_l17), (9, Vi t24__s24_l11), (10, .slice a14 (x13).length c14), (22, .slice a_p1 (p1).length c_p1), (23, Vi ((p1).length : Int)), (24, Vi t24__s24_l11), (29, .slice a14 (x13).length c14), (30, Vi ((x13).length : Int)), (31, Vi t31__s31_l17), (32, .bool (decide (t31__s31_l17 < ((x13).length : Int))))] ⟨rfl, rfl, rfl, rfl, rfl, rfl, rfl, rfl, rfl, rfl, rfl, rfl, trivial⟩ (fun J => ?_)
   refine c_seq ?_
   refine c_cond (decide (t31__s31_l17 < ((x13).length : Int))) rfl (fun hb => ?_) (fun hb => ?_)
   · replace h := ite_t hb h
     refine c_skip ?_
     refine k_then ?_
     refine c_seq ?_
     refine c_block ?_
     refine c_sp ?_
     refine x_pure 1 [(33, Vi t31__s31_l17)] _ _ _ (by kernel_rfl) ?_
     obtain ⟨x19, hx19, h⟩ := bind_some h
     obtain ⟨ad19, cs19, hr19, hc19, hR⟩ := reads_index (Mo := []) tsl22 hs14 hx19
     obtain rfl := hR
     refine x_indexAddr (xv := .slice a14 (x13).length c14) (yv := Vi t31__s31_l17) (.pointer (some ad19)) rfl rfl rfl rfl hr19 ?_
     refine x_load (xv := .pointer (some ad19)) (Vi x19) rfl rfl rfl (reads_cell0 tcell3 hc19 (fun _ h => by cases h)) ?_
     refine x_pure 2 [(11, Vi t31__s31_l17), (12, Vi x19)] _ _ _ (by kernel_rfl) ?_
     refine x_ek ?_
     refine c_seq ?_
     refine c_seq ?_
     refine c_drawn [] [(0, false), (1, false), (2, false), (3, false), (4, false), (5, true), (6, false), (7, false), (8, false), (9, false), (10, false), (11, false), (12, false), (13, false), (14, false), (15, false), (16, false), (17, false), (18, false), (19, false), (20, false), (21, false), (22, false), (23, false), (24, false), (25, false), (26, false), (27, false), (28, false), (29, false), (30, false), (31, false), (32, false), (33, false), (34, false), (35, false), (36, false), (37, false), (38, false), (39, false), (40, false), (41, false), (42, false), (43, false), (44, false), (45, false)] _ (by kernel_rfl) rfl ?_
     have hst := Stp.ext (ls := [[b3], blk a9_l17, M]) (Ev.drew wl17)
     replace hb3 := (Ev.drew wl17).box hb3 nn
     replace hs_p0_0 := hs_p0_0.step hst
     replace ho8 := ho8.step hst (Ev.drew wl17) nn2
     replace hs14 := hs14.step hst
     replace hs_p1 := hs_p1.step hst
     replace hms := hms.ev (Ev.drew wl17)
     replace hev := hev.ext (Ev.drew wl17)
     refine x_pure 1 [(36, Vi x19)] _ _ _ (by kernel_rfl) ?_
     refine x_fieldAddr (xv := Vp b3 0) (Vp b3 0) rfl rfl rfl (reads_field tfld25_0 _ _) ?_
     refine x_load (xv := Vp b3 0) (.slice a_p0_0 (p0_0).length c_p0_0) rfl rfl rfl (reads_box tcell23 hb3 nn 0 _ rfl) ?_
     refine x_len (vs := [.slice a_p0_0 (p0_0).length c_p0_0]) (Vi ((p0_0).length : Int)) rfl rfl rfl (reads_len tsl23 _ _ _ _ _) ?_
     refine x_pure 1 [(40, Vi (IntKind.i64.wrap (((p0_0).length : Int) - 1)))] _ _ _ (by kernel_rfl) ?_
     obtain ⟨x21, hx, h⟩ := bind_some h
     have hcall := job_in_w x19 0 (IntKind.i64.wrap (((p0_0).length : Int) - 1)) _ (wl17).drew hx
     refine x_call 51 #[] #[] [Vi x19, Vi 0, Vi (IntKind.i64.wrap (((p0_0).length : Int) - 1))] _ rfl rfl rfl rfl hcall ?_
     rintro v w22 ⟨rfl, he22⟩
     clear hcall hx
     refine inl1 ?_
     have hst := Stp.ext (ls := [[b3], blk a9_l17, M]) he22
     replace hb3 := he22.box hb3 nn
     replace hs_p0_0 := hs_p0_0.step hst
     replace ho8 := ho8.step hst he22 nn2
     replace hs14 := hs14.step hst
     replace hs_p1 := hs_p1.step hst
     replace hms := hms.ev he22
     replace hev := hev.ext he22
     refine x_pure 2 [(42, .bool (!x21)), (43, .bool (!x21))] _ _ _ (by kernel_rfl) ?_
     refine x_split 43 (!x21) rfl (fun hb => ?_) (fun hb => ?_)
     · replace h := ite_t hb h
       refine x_pure 38 [(44, undef), (45, undef), (46, undef), (47, undef), (48, .bool true), (49, .bool true), (50, undef), (51, undef), (52, undef), (53, undef), (54, undef), (55, undef), (56, undef), (57, undef), (58, .bool true), (59, .bool true), (60, undef), (61, undef), (62, undef), (63, undef), (64, undef), (65, undef), (66, undef), (67, undef), (68, undef), (69, undef), (70, undef), (71, undef), (72, undef), (73, undef), (74, undef), (75, undef), (76, undef), (77, undef), (78, undef), (79, undef), (80, undef), (81, .bool true)] _ _ _ (by kernel_rfl) ?_
       refine x_ek ?_
       refine c_norm [(2, Vp b3 0), (7, .slice a9_l17 (d9_l17).length c8), (8, Vi n_s8_l17), (9, Vi t24__s24_l11), (10, .slice a14 (x13).length c14), (12, Vi x19), (22, .slice a_p1 (p1).length c_p1), (23, Vi ((p1).length : Int)), (24, Vi t24__s24_l11), (29, .slice a14 (x13).length c14), (30, Vi ((x13).length : Int)), (31, Vi t31__s31_l17), (81, .bool true)] ⟨rfl, rfl, rfl, rfl, rfl, rfl, rfl, rfl, rfl, rfl, rfl, rfl, rfl, trivial⟩ (fun J => ?_)
       refine c_true rfl ?_
       refine c_sp ?_
       refine x_pure 2 [(4, .bool false), (5, Vi 0)] _ _ _ (by kernel_rfl) ?_
       refine x_ek ?_
       refine c_ret ?_
       refine k_then_ret ?_
       refine k_block_ret ?_
       refine k_then_ret ?_
       have hx := some_inj h
       subst hx
       have hy := some_inj hn17
       subst hy
       replace h := h17
       refine k_then_ret ?_
       refine k_block_ret ?_
       refine k_block_ret ?_
       refine k_then_ret ?_
       have hx := some_inj h
       subst hx
       have hy := some_inj hn11
       subst hy
       replace h := h11
       refine k_then_ret ?_
       refine k_block_ret ?_
       refine k_then_ret ?_
       refine r_ret (r_vals [.bool false, Vi 0] ⟨rfl, rfl, trivial⟩ ?_)
       have hx := some_inj h
       subst hx
       have hmr : MS w22 [M] := hms.pick [some 2] _ rfl
       have hsu : ∀ x ∈ fl [M], x ∈ fl [[b3], blk a9_l17, M] := pick_sub [some 2] _ rfl
       exact ⟨rfl, hev⟩
     replace h := ite_f hb h
     refine x_pure 2 [(44, .slice a9_l17 (d9_l17).length c8), (45, Vi x19)] _ _ _ (by kernel_rfl) ?_
     obtain ⟨x23, hx23, h⟩ := bind_some h
     obtain ⟨g23, cs23, ha, hr23, hc23, hR⟩ := own_index (Mo := []) tsl89 ho8 hx23
     subst ha
     obtain rfl := hR
     refine x_indexAddr (xv := .slice (Ad g23 0) (d9_l17).length c8) (yv := Vi x19) (.pointer (some ⟨g23, (Int.toNat x19) * eBool.n, none⟩)) rfl rfl rfl rfl hr23 ?_
     refine x_load (xv := .pointer (some ⟨g23, (Int.toNat x19) * eBool.n, none⟩)) (.bool x23) rfl rfl rfl (reads_cell0 tcell4 hc23 (fun _ h => by cases h)) ?_
     refine x_pure 2 [(48, .bool x23), (49, .bool x23)] _ _ _ (by kernel_rfl) ?_
     refine x_split 49 x23 rfl (fun hb => ?_) (fun hb => ?_)
     · replace h := ite_t hb h
       refine x_pure 32 [(50, undef), (51, undef), (52, undef), (53, undef), (54, undef), (55, undef), (56, undef), (57, undef), (58, .bool true), (59, .bool true), (60, undef), (61, undef), (62, undef), (63, undef), (64, undef), (65, undef), (66, undef), (67, undef), (68, undef), (69, undef), (70, undef), (71, undef), (72, undef), (73, undef), (74, undef), (75, undef), (76, undef), (77, undef), (78, undef), (79, undef), (80, undef), (81, .bool true)] _ _ _ (by kernel_rfl) ?_
       refine x_ek ?_
       refine c_norm [(2, Vp b3 0), (7, .slice (Ad g23 0) (d9_l17).length c8), (8, Vi n_s8_l17), (9, Vi t24__s24_l11), (10, .slice a14 (x13).length c14), (12, Vi x19), (22, .slice a_p1 (p1).length c_p1), (23, Vi ((p1).length : Int)), (24, Vi t24__s24_l11), (29, .slice a14 (x13).length c14), (30, Vi ((x13).length : Int)), (31, Vi t31__s31_l17), (81, .bool true)] ⟨rfl, rfl, rfl, rfl, rfl, rfl, rfl, rfl, rfl, rfl, rfl, rfl, rfl, trivial⟩ (fun J => ?_)
       refine c_true rfl ?_
       refine c_sp ?_
       refine x_pure 2 [(4, .bool false), (5, Vi 0)] _ _ _ (by kernel_rfl) ?_
       refine x_ek ?_
       refine c_ret ?_
       refine k_then_ret ?_
       refine k_block_ret ?_
       refine k_then_ret ?_
       have hx := some_inj h
       subst hx
       have hy := some_inj hn17
       subst hy
       replace h := h17
       refine k_then_ret ?_
       refine k_block_ret ?_
       refine k_block_ret ?_
       refine k_then_ret ?_
       have hx := some_inj h
       subst hx
       have hy := some_inj hn11
       subst hy
       replace h := h11
       refine k_then_ret ?_
       refine k_block_ret ?_
       refine k_then_ret ?_
       refine r_ret (r_vals [.bool false, Vi 0] ⟨rfl, rfl, trivial⟩ ?_)
       have hx := some_inj h
       subst hx
       have hmr : MS w22 [M] := hms.pick [some 2] _ rfl
       have hsu : ∀ x ∈ fl [M], x ∈ fl [[b3], blk (Ad g23 0), M] := pick_sub [some 2] _ rfl
       exact ⟨rfl, hev⟩
     replace h := ite_f hb h
     refine x_fieldAddr (xv := Vp b3 0) (Vp b3 0) rfl rfl rfl (reads_field tfld25_0 _ _) ?_
     refine x_load (xv := Vp b3 0) (.slice a_p0_0 (p0_0).length c_p0_0) rfl rfl rfl (reads_box tcell23 hb3 nn 0 _ rfl) ?_
     refine x_pure 1 [(52, Vi x19)] _ _ _ (by kernel_rfl) ?_
     obtain ⟨x25, hx25, h⟩ := bind_some h
     obtain ⟨ad25, cs25, hr25, hc25, hR⟩ := reads_index (Mo := []) tsl23 hs_p0_0 hx25
     obtain ⟨_, _, rfl, rfl, ⟨_, _, rfl, rfl, ⟨_, _, rfl, rfl, rfl⟩⟩⟩ := hR
     refine x_indexAddr (xv := .slice a_p0_0 (p0_0).length c_p0_0) (yv := Vi x19) (.pointer (some ad25)) rfl rfl rfl rfl hr25 ?_
     refine x_fieldAddr (xv := .pointer (some ad25)) (.pointer (some (Addr.add ad25 0))) rfl rfl rfl (reads_field tfld79_0 _ _) ?_
     refine x_load (xv := .pointer (some (Addr.add ad25 0))) (Vi x25.1) rfl rfl rfl (reads_cell tcell3 hc25 (fun _ h => by cases h) 0 _ rfl) ?_
     refine x_pure 4 [(56, Vi t24__s24_l11), (57, .bool (x25.1 != t24__s24_l11)), (58, .bool (x25.1 != t24__s24_l11)), (59, .bool (x25.1 != t24__s24_l11))] _ _ _ (by kernel_rfl) ?_
     refine x_split 59 (x25.1 != t24__s24_l11) rfl (fun hb => ?_) (fun hb => ?_)
     · replace h := ite_t hb h
       refine x_pure 22 [(60, undef), (61, undef), (62, undef), (63, undef), (64, undef), (65, undef), (66, undef), (67, undef), (68, undef), (69, undef), (70, undef), (71, undef), (72, undef), (73, undef), (74, undef), (75, undef), (76, undef), (77, undef), (78, undef), (79, undef), (80, undef), (81, .bool true)] _ _ _ (by kernel_rfl) ?_
       refine x_ek ?_
       refine c_norm [(2, Vp b3 0), (7, .slice (Ad g23 0) (d9_l17).length c8), (8, Vi n_s8_l17), (9, Vi t24__s24_l11), (10, .slice a14 (x13).length c14), (12, Vi x19), (22, .slice a_p1 (p1).length c_p1), (23, Vi ((p1).length : Int)), (24, Vi t24__s24_l11), (29, .slice a14 (x13).length c14), (30, Vi ((x13).length : Int)), (31, Vi t31__s31_l17), (81, .bool true)] ⟨rfl, rfl, rfl, rfl, rfl, rfl, rfl, rfl, rfl, rfl, rfl, rfl, rfl, trivial⟩ (fun J => ?_)
       refine c_true rfl ?_
       refine c_sp ?_
       refine x_pure 2 [(4, .bool false), (5, Vi 0)] _ _ _ (by kernel_rfl) ?_
       refine x_ek ?_
       refine c_ret ?_
       refine k_then_ret ?_
       refine k_block_ret ?_
       refine k_then_ret ?_
       have hx := some_inj h
       subst hx
       have hy := some_inj hn17
       subst hy
       replace h := h17
       refine k_then_ret ?_
       refine k_block_ret ?_
       refine k_block_ret ?_
       refine k_then_ret ?_
       have hx := some_inj h
       subst hx
       have hy := some_inj hn11
       subst hy
       replace h := h11
       refine k_then_ret ?_
       refine k_block_ret ?_
       refine k_then_ret ?_
       refine r_ret (r_vals [.bool false, Vi 0] ⟨rfl, rfl, trivial⟩ ?_)
       have hx := some_inj h
       subst hx
       have hmr : MS w22 [M] := hms.pick [some 2] _ rfl
       have hsu : ∀ x ∈ fl [M], x ∈ fl [[b3], blk (Ad g23 0), M] := pick_sub [some 2] _ rfl
       exact ⟨rfl, hev⟩
     replace h := ite_f hb h
     refine x_pure 3 [(60, Vi t31__s31_l17), (61, .bool (decide (t31__s31_l17 > 0))), (62, .bool (decide (t31__s31_l17 > 0)))] _ _ _ (by kernel_rfl) ?_
     refine x_split 62 (decide (t31__s31_l17 > 0)) rfl (fun hb => ?_) (fun hb => ?_)
     · replace h := ite_t hb h
       refine x_fieldAddr (xv := Vp b3 0) (Vp b3 0) rfl rfl rfl (reads_field tfld25_0 _ _) ?_
       refine x_load (xv := Vp b3 0) (.slice a_p0_0 (p0_0).length c_p0_0) rfl rfl rfl (reads_box tcell23 hb3 nn 0 _ rfl) ?_
       refine x_pure 1 [(65, Vi x19)] _ _ _ (by kernel_rfl) ?_
       obtain ⟨x27, hx27, h⟩ := bind_some h
       obtain ⟨ad27, cs27, hr27, hc27, hR⟩ := reads_index (Mo := []) tsl23 hs_p0_0 hx27
       obtain ⟨_, _, rfl, rfl, ⟨_, _, rfl, rfl, ⟨_, _, rfl, rfl, rfl⟩⟩⟩ := hR
       refine x_indexAddr (xv := .slice a_p0_0 (p0_0).length c_p0_0) (yv := Vi x19) (.pointer (some ad27)) rfl rfl rfl rfl hr27 ?_
       refine x_fieldAddr (xv := .pointer (some ad27)) (.pointer (some (Addr.add ad27 1))) rfl rfl rfl (reads_field tfld79_1 _ _) ?_
       refine x_load (xv := .pointer (some (Addr.add ad27 1))) (Vi x27.2.1) rfl rfl rfl (reads_cell tcell3 hc27 (fun _ h => by cases h) 1 _ rfl) ?_
       refine x_fieldAddr (xv := Vp b3 0) (Vp b3 0) rfl rfl rfl (reads_field tfld25_0 _ _) ?_
       refine x_load (xv := Vp b3 0) (.slice a_p0_0 (p0_0).length c_p0_0) rfl rfl rfl (reads_box tcell23 hb3 nn 0 _ rfl) ?_
       refine x_pure 3 [(71, .slice a14 (x13).length c14), (72, Vi t31__s31_l17), (73, Vi (IntKind.i64.wrap (t31__s31_l17 - 1)))] _ _ _ (by kernel_rfl) ?_
       obtain ⟨x29, hx29, h⟩ := bind_some h
       obtain ⟨ad29, cs29, hr29, hc29, hR⟩ := reads_index (Mo := []) tsl22 hs14 hx29
       obtain rfl := hR
       refine x_indexAddr (xv := .slice a14 (x13).length c14) (yv := Vi (IntKind.i64.wrap (t31__s31_l17 - 1))) (.pointer (some ad29)) rfl rfl rfl rfl hr29 ?_
       refine x_load (xv := .pointer (some ad29)) (Vi x29) rfl rfl rfl (reads_cell0 tcell3 hc29 (fun _ h => by cases h)) ?_
       obtain ⟨x31, hx31, h⟩ := bind_some h
       obtain ⟨ad31, cs31, hr31, hc31, hR⟩ := reads_index (Mo := []) tsl23 hs_p0_0 hx31
       obtain ⟨_, _, rfl, rfl, ⟨_, _, rfl, rfl, ⟨_, _, rfl, rfl, rfl⟩⟩⟩ := hR
       refine x_indexAddr (xv := .slice a_p0_0 (p0_0).length c_p0_0) (yv := Vi x29) (.pointer (some ad31)) rfl rfl rfl rfl hr31 ?_
       refine x_fieldAddr (xv := .pointer (some ad31)) (.pointer (some (Addr.add ad31 1))) rfl rfl rfl (reads_field tfld79_1 _ _) ?_
       refine x_load (xv := .pointer (some (Addr.add ad31 1))) (Vi x31.2.1) rfl rfl rfl (reads_cell tcell3 hc31 (fun _ h => by cases h) 1 _ rfl) ?_
       refine x_pure 3 [(79, .bool (decide (x27.2.1 < x31.2.1))), (80, .bool (decide (x27.2.1 < x31.2.1))), (81, .bool (decide (x27.2.1 < x31.2.1)))] _ _ _ (by kernel_rfl) ?_
       refine x_ek ?_
       refine c_norm [(2, Vp b3 0), (7, .slice (Ad g23 0) (d9_l17).length c8), (8, Vi n_s8_l17), (9, Vi t24__s24_l11), (10, .slice a14 (x13).length c14), (12, Vi x19), (22, .slice a_p1 (p1).length c_p1), (23, Vi ((p1).length : Int)), (24, Vi t24__s24_l11), (29, .slice a14 (x13).length c14), (30, Vi ((x13).length : Int)), (31, Vi t31__s31_l17), (81, .bool (decide (x27.2.1 < x31.2.1)))] ⟨rfl, rfl, rfl, rfl, rfl, rfl, rfl, rfl, rfl, rfl, rfl, rfl, rfl, trivial⟩ (fun J => ?_)
       refine c_cond (decide (x27.2.1 < x31.2.1)) rfl (fun hb => ?_) (fun hb => ?_)
       · replace h := ite_t hb h
         refine c_sp ?_
         refine x_pure 2 [(4, .bool false), (5, Vi 0)] _ _ _ (by kernel_rfl) ?_
         refine x_ek ?_
         refine c_ret ?_
         refine k_then_ret ?_
         refine k_block_ret ?_
         refine k_then_ret ?_
         have hx := some_inj h
         subst hx
         have hy := some_inj hn17
         subst hy
         replace h := h17
         refine k_then_ret ?_
         refine k_block_ret ?_
         refine k_block_ret ?_
         refine k_then_ret ?_
         have hx := some_inj h
         subst hx
         have hy := some_inj hn11
         subst hy
         replace h := h11
         refine k_then_ret ?_
         refine k_block_ret ?_
         refine k_then_ret ?_
         refine r_ret (r_vals [.bool false, Vi 0] ⟨rfl, rfl, trivial⟩ ?_)
         have hx := some_inj h
         subst hx
         have hmr : MS w22 [M] := hms.pick [some 2] _ rfl
         have hsu : ∀ x ∈ fl [M], x ∈ fl [[b3], blk (Ad g23 0), M] := pick_sub [some 2] _ rfl
         exact ⟨rfl, hev⟩
       replace h := ite_f hb h
       refine c_skip ?_
       refine k_then ?_
       refine c_sp ?_
       refine x_pure 2 [(82, .slice (Ad g23 0) (d9_l17).length c8), (83, Vi x19)] _ _ _ (by kernel_rfl) ?_
       obtain ⟨x33, hx33, h⟩ := bind_some h
       obtain ⟨g33, cs33, ha, hr33, hc33, hR⟩ := own_index (Mo := []) tsl89 ho8 hx33
       have hg : g23 = g33 := by cases ha; rfl
       subst hg
       obtain rfl := hR
       refine x_indexAddr (xv := .slice (Ad g23 0) (d9_l17).length c8) (yv := Vi x19) (.pointer (some ⟨g23, (Int.toNat x19) * eBool.n, none⟩)) rfl rfl rfl rfl hr33 ?_
       obtain ⟨w35, hr35, he35, ho35⟩ := own_store (y := true) 0 (.bool true) tcell4 ho8 (mem_flat 1 rfl _ mem1) hx33 rfl rfl (fun _ _ _ hR => set_bool hR)
       refine x_store w35 (xv := .pointer (some ⟨g23, (Int.toNat x19) * eBool.n, none⟩)) (yv := .bool true) rfl rfl rfl rfl hr35 ?_
       refine inl1 ?_
       have hst := Stp.ev' (ls := [[b3], blk (Ad g23 0), M]) he35 (mem_flat 1 rfl)
       replace hb3 := he35.box hb3 (hms.apart 0 1 rfl rfl rfl _ mem1)
       replace hs_p0_0 := hs_p0_0.step hst
       replace hs14 := hs14.step hst
       replace hs_p1 := hs_p1.step hst
       replace hms := hms.ev he35
       replace hev := hev.then he35 (fun b hb => .inr (hfr.at 1 rfl b hb))
       replace ho8 := ho35
       have hsl : (Value.slice (Ad g23 0) (d9_l17).length c8) = (Value.slice (Ad g23 0) ((d9_l17.set (Int.toNat x19) true)).length c8) := by first | (rw [List.length_set]; done) | simp only [List.length_set]
       try rw [hsl]
       clear hsl
       refine x_ek ?_
       refine c_plain ?_
       refine x_pure 3 [(85, Vi n_s8_l17), (86, Vi (IntKind.i64.wrap (n_s8_l17 + 1))), (8, Vi (IntKind.i64.wrap (n_s8_l17 + 1)))] _ _ _ (by kernel_rfl) ?_
       refine x_end rfl ?_
       refine k_block ?_
       refine k_then ?_
       refine c_plain ?_
       refine x_pure 2 [(87, Vi (IntKind.i64.wrap (t31__s31_l17 + 1))), (31, Vi (IntKind.i64.wrap (t31__s31_l17 + 1)))] _ _ _ (by kernel_rfl) ?_
       refine x_end rfl ?_
       have hx := some_inj h
       subst hx
       exact k_then ⟨(m17, (d9_l17.set (Int.toNat x19) true), IntKind.i64.wrap (n_s8_l17 + 1), IntKind.i64.wrap (t31__s31_l17 + 1), (Ad g23 0)), ⟨rfl, rfl, rfl, rfl, rfl, rfl, rfl, rfl, rfl, rfl, rfl, trivial⟩, ⟨hn17, hev, hms, hfr, hs_p0_0, hb3, ho8, hs14, hs_p1⟩, Nat.lt_succ_self _⟩
     replace h := ite_f hb h
     refine x_pure 19 [(63, undef), (64, undef), (65, undef), (66, undef), (67, undef), (68, undef), (69, undef), (70, undef), (71, undef), (72, undef), (73, undef), (74, undef), (75, undef), (76, undef), (77, undef), (78, undef), (79, undef), (80, .bool false), (81, .bool false)] _ _ _ (by kernel_rfl) ?_
     refine x_ek ?_
     refine c_norm [(2, Vp b3 0), (7, .slice (Ad g23 0) (d9_l17).length c8), (8, Vi n_s8_l17), (9, Vi t24__s24_l11), (10, .slice a14 (x13).length c14), (12, Vi x19), (22, .slice a_p1 (p1).length c_p1), (23, Vi ((p1).length : Int)), (24, Vi t24__s24_l11), (29, .slice a14 (x13).length c14), (30, Vi ((x13).length : Int)), (31, Vi t31__s31_l17), (81, .bool false)] ⟨rfl, rfl, rfl, rfl, rfl, rfl, rfl, rfl, rfl, rfl, rfl, rfl, rfl, trivial⟩ (fun J => ?_)
     refine c_false rfl ?_
     refine c_skip ?_
     refine k_then ?_
     refine c_sp ?_
     refine x_pure 2 [(82, .slice (Ad g23 0) (d9_l17).length c8), (83, Vi x19)] _ _ _ (by kernel_rfl) ?_
     obtain ⟨x36, hx36, h⟩ := bind_some h
     obtain ⟨g36, cs36, ha, hr36, hc36, hR⟩ := own_index (Mo := []) tsl89 ho8 hx36
     have hg : g23 = g36 := by cases ha; rfl
     subst hg
     obtain rfl := hR
     refine x_indexAddr (xv := .slice (Ad g23 0) (d9_l17).length c8) (yv := Vi x19) (.pointer (some ⟨g23, (Int.toNat x19) * eBool.n, none⟩)) rfl rfl rfl rfl hr36 ?_
     obtain ⟨w38, hr38, he38, ho38⟩ := own_store (y := true) 0 (.bool true) tcell4 ho8 (mem_flat 1 rfl _ mem1) hx36 rfl rfl (fun _ _ _ hR => set_bool hR)
     refine x_store w38 (xv := .pointer (some ⟨g23, (Int.toNat x19) * eBool.n, none⟩)) (yv := .bool true) rfl rfl rfl rfl hr38 ?_
     refine inl1 ?_
     have hst := Stp.ev' (ls := [[b3], blk (Ad g23 0), M]) he38 (mem_flat 1 rfl)
     replace hb3 := he38.box hb3 (hms.apart 0 1 rfl rfl rfl _ mem1)
     replace hs_p0_0 := hs_p0_0.step hst
     replace hs14 := hs14.step hst
     replace hs_p1 := hs_p1.step hst
     replace hms := hms.ev he38
     replace hev := hev.then he38 (fun b hb => .inr (hfr.at 1 rfl b hb))
     replace ho8 := ho38
     have hsl : (Value.slice (Ad g23 0) (d9_l17).length c8) = (Value.slice (Ad g23 0) ((d9_l17.set (Int.toNat x19) true)).length c8) := by first | (rw [List.length_set]; done) | simp only [List.length_set]
     try rw [hsl]
     clear hsl
     refine x_ek ?_
     refine c_plain ?_
     refine x_pure 3 [(85, Vi n_s8_l17), (86, Vi (IntKind.i64.wrap (n_s8_l17 + 1))), (8, Vi (IntKind.i64.wrap (n_s8_l17 + 1)))] _ _ _ (by kernel_rfl) ?_
     refine x_end rfl ?_
     refine k_block ?_
     refine k_then ?_
     refine c_plain ?_
     refine x_pure 2 [(87, Vi (IntKind.i64.wrap (t31__s31_l17 + 1))), (31, Vi (IntKind.i64.wrap (t31__s31_l17 + 1)))] _ _ _ (by kernel_rfl) ?_
     refine x_end rfl ?_
     have hx := some_inj h
     subst hx
     exact k_then ⟨(m17, (d9_l17.set (Int.toNat x19) true), IntKind.i64.wrap (n_s8_l17 + 1), IntKind.i64.wrap (t31__s31_l17 + 1), (Ad g23 0)), ⟨rfl, rfl, rfl, rfl, rfl, rfl, rfl, rfl, rfl, rfl, rfl, trivial⟩, ⟨hn17, hev, hms, hfr, hs_p0_0, hb3, ho8, hs14, hs_p1⟩, Nat.lt_succ_self _⟩
   replace h := ite_f hb h
   refine c_exit ?_
   refine k_then_exit ?_
   have hx := some_inj h
   subst hx
   have hy := some_inj hn17
   subst hy
   replace h := h17
   refine k_then_exit ?_
   refine k_block_in ?_
   refine k_block ?_
   refine k_then ?_
   refine c_norm [(2, Vp b3 0), (7, .slice a9_l17 (d9_l17).length c8), (8, Vi n_s8_l17), (22, .slice a_p1 (p1).length c_p1), (23, Vi ((p1).length : Int)), (24, Vi t24__s24_l11)] ⟨rfl, rfl, rfl, rfl, rfl, rfl, trivial⟩ (fun J => ?_)
   refine c_plain ?_
   refine x_pure 2 [(88, Vi (IntKind.i64.wrap (t24__s24_l11 + 1))), (24, Vi (IntKind.i64.wrap (t24__s24_l11 + 1)))] _ _ _ (by kernel_rfl) ?_
   refine x_end rfl ?_
   have hx := some_inj h
   subst hx
   exact k_then ⟨(m11, d9_l17, n_s8_l17, IntKind.i64.wrap (t24__s24_l11 + 1), a9_l17), ⟨rfl, rfl, rfl, rfl, rfl, rfl, trivial⟩, ⟨hn11, hev, hms, hfr, hs_p0_0, hb3, ho8, hs_p1⟩, Nat.lt_succ_self _⟩
 replace h := ite_f hb h
 refine c_exit ?_
 refine k_then_exit ?_
 have hx := some_inj h
 subst hx
 have hy := some_inj hn11
 subst hy
 replace h := h11
 refine k_then_exit ?_
 refine k_block_in ?_
 refine k_then ?_
 refine c_norm [(2, Vp b3 0), (8, Vi n_s8_l11)] ⟨rfl, rfl, trivial⟩ (fun J => ?_)
 refine c_sp ?_
 refine x_pure 1 [(89, Vi n_s8_l11)] _ _ _ (by kernel_rfl) ?_
 refine x_fieldAddr (xv := Vp b3 0) (Vp b3 0) rfl rfl rfl (reads_field tfld25_0 _ _) ?_
 refine x_load (xv := Vp b3 0) (.slice a_p0_0 (p0_0).length c_p0_0) rfl rfl rfl (reads_box tcell23 hb3 nn 0 _ rfl) ?_
 refine x_len (vs := [.slice a_p0_0 (p0_0).length c_p0_0]) (Vi ((p0_0).length : Int)) rfl rfl rfl (reads_len tsl23 _ _ _ _ _) ?_
 refine x_pure 3 [(93, .bool (n_s8_l11 == ((p0_0).length : Int))), (4, .bool (n_s8_l11 == ((p0_0).length : Int))), (5, Vi 0)] _ _ _ (by kernel_rfl) ?_
 refine x_ek ?_
 refine c_ret ?_
 refine r_ret (r_vals [.bool (n_s8_l11 == ((p0_0).length : Int)), Vi 0] ⟨rfl, rfl, trivial⟩ ?_)
 have hx := some_inj h
 subst hx
 have hmr : MS wl11 [M] := hms.pick [some 2] _ rfl
 have hsu : ∀ x ∈ fl [M], x ∈ fl [[b3], blk a9_l11, M] := pick_sub [some 2] _ rfl
 exact ⟨rfl, hev⟩
end Go.Proofs.Ytcignnfdpgeogaa
