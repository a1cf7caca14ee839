/- Walks, printed by program: each function returns what the partial function of the same name returns. Conditions: those of each theorem. -/
import Derived.Test.YtacimonplnlmgaaGT
import Derived.Test.YtacimonplnlmgaaGslices
set_option linter.unusedVariables false
set_option linter.unusedSimpArgs false
set_option maxRecDepth 4000
namespace Go.Proofs.Ytacimonplnlmgaa
open Go Go.V Go.Proofs
def job_in (p0 : Int) (p1 : Int) (p2 : Int) : Option Bool :=
(if (decide (p0 ≥ p1)) = true then
some (decide (p0 ≤ p2))
else
some false)

theorem job_in_w (p0 : Int) (p1 : Int) (p2 : Int) (r : Bool) (w : World) (h : job_in p0 p1 p2 = some r) : CallVC Try.prog 26 [.int .i64 p0, .int .i64 p1, .int .i64 p2] w fun v w' => v = .bool r ∧ Ev [] w w' := by
  refine calls_vc hmx Try.func26 (by kernel_rfl) rfl (rs := [.tmp 6]) rfl (by kernel_rfl) (args := [.int .i64 p0, .int .i64 p1, .int .i64 p2]) rfl ?_
  have hev : Ev [] w w := Ev.refl _ _
  have hms : MS w [[]] := ⟨List.pairwise_singleton _ _, fun l hl b hb => by simp only [List.mem_singleton] at hl; subst hl; cases hb⟩
  have hfr : FR w.heap.size [] := FR.nil _
  refine c_seq (c_plain ?_)
  refine x_pure 1 [(6, .bool false)] _ _ _ (by kernel_rfl) ?_
  refine x_end rfl (k_then ?_)
  refine c_seq (c_plain ?_)
  refine x_pure 4 [(7, .int .i64 p0), (8, .int .i64 p1), (9, .bool (decide (p0 ≥ p1))), (10, .bool (decide (p0 ≥ p1)))] _ _ _ (by kernel_rfl) ?_
  refine x_split 10 (decide (p0 ≥ p1)) rfl (fun hb => ?_) (fun hb => ?_)
  · replace h := ite_t hb h
    refine x_pure 5 [(11, .int .i64 p0), (12, .int .i64 p2), (13, .bool (decide (p0 ≤ p2))), (14, .bool (decide (p0 ≤ p2))), (6, .bool (decide (p0 ≤ p2)))] _ _ _ (by kernel_rfl) ?_
    refine x_end rfl (k_then ?_)
    refine c_ret ?_
    refine r_ret (r_vals [.bool (decide (p0 ≤ p2))] ⟨rfl, trivial⟩ ?_)
    have hx := some_inj h
    subst hx
    exact ⟨rfl, hev⟩
  replace h := ite_f hb h
  refine x_pure 5 [(11, undef), (12, undef), (13, undef), (14, .bool false), (6, .bool false)] _ _ _ (by kernel_rfl) ?_
  refine x_end rfl (k_then ?_)
  refine c_ret ?_
  refine r_ret (r_vals [.bool false] ⟨rfl, trivial⟩ ?_)
  have hx := some_inj h
  subst hx
  exact ⟨rfl, hev⟩
def job_Valid_L8 (p0_0 : List (Int × Int × Int × Int)) (s : Int) : Option (Step Int (Int ⊕ Unit)) :=
match s with
| t16__s16_l8 =>
(if (decide (t16__s16_l8 < ((p0_0).length : Int))) = true then
((idx p0_0 t16__s16_l8).bind fun x10 =>
((job_in x10.1 0 15).bind fun x16 =>
(if (!x16) = true then
some (.done (.inl 2))
else
((job_in x10.2.1 0 31).bind fun x18 =>
(if (!x18) = true then
some (.done (.inl 2))
else
((job_in x10.2.2.1 0 12).bind fun x20 =>
(if (!x20) = true then
some (.done (.inl 2))
else
((job_in x10.2.2.2 1 400).bind fun x22 =>
(if (!x22) = true then
some (.done (.inl 2))
else
(if (decide (t16__s16_l8 > 0)) = true then
((idx p0_0 (IntKind.i64.wrap (t16__s16_l8 - 1))).bind fun x24 =>
(if (decide (x10.2.2.1 < x24.2.2.1)) = true then
some (.done (.inl 12))
else
some (.next (IntKind.i64.wrap (t16__s16_l8 + 1)))))
else
some (.next (IntKind.i64.wrap (t16__s16_l8 + 1)))))))))))))
else
some (.done (.inr ())))

def job_Valid (p0_0 : List (Int × Int × Int × Int)) (p0_1 : Int) : Option Int :=
(if (decide (((p0_0).length : Int) > 96)) = true then
some 3
else
((job_in p0_1 0 12).bind fun x6 =>
(if (!x6) = true then
some 2
else
((loop (job_Valid_L8 p0_0) 0).bind fun d => match d with
| (.inl t2__s2_x800) => some t2__s2_x800
| (.inr _) => some 0))))

theorem job_Valid_w (a_p0_0 : Option Addr) (c_p0_0 : Nat) (p0_0 : List (Int × Int × Int × Int)) (p0_1 : Int) (r : Int) (w : World) (M : List Nat) (hms : MS w [M]) (hs_p0_0 : SlR (eProd (eInt .i64) (eProd (eInt .i64) (eProd (eInt .i64) (eInt .i64)))) w (fl [M]) a_p0_0 c_p0_0 p0_0) (h : job_Valid p0_0 p0_1 = some r) : CallVC Try.prog 11 [.agg #[.slice a_p0_0 (p0_0).length c_p0_0, .int .i64 p0_1]] w fun v w' => v = .int .i64 r ∧ Ev [] w w' := by
  refine calls_vc hmx Try.func11 (by kernel_rfl) rfl (rs := [.tmp 2]) rfl (by kernel_rfl) (args := [.agg #[.slice a_p0_0 (p0_0).length c_p0_0, .int .i64 p0_1]]) rfl ?_
  have hev : Ev [] w w := Ev.refl _ _
  have hfr : FR w.heap.size [] := FR.nil _
  refine c_seq (c_plain ?_)
  refine x_box (xv := .agg #[.slice a_p0_0 (p0_0).length c_p0_0, .int .i64 p0_1]) rfl rfl rfl (fun b2 w2 hq2 hb2 he2 hz2 => ?_)
  replace hb2 : w2.heap[b2]? = some (.cells #[.slice a_p0_0 (p0_0).length c_p0_0, .int .i64 p0_1] 24 (0, 0)) := hb2
  refine ⟨.inl rfl, ?_⟩
  have hst := Stp.box (ls := [M]) he2 hq2
  replace hs_p0_0 := hs_p0_0.step hst
  replace hms := hms.box he2 hq2 hb2
  replace hfr := hfr.box hev.size hq2
  replace hev := hev.ext he2
  refine x_pure 1 [(2, .int .i64 0)] _ _ _ (by kernel_rfl) ?_
  refine x_end rfl (k_then ?_)
  refine c_seq ?_
  refine c_seq (c_plain ?_)
  refine x_fieldAddr (xv := .pointer (some ⟨b2, 0, none⟩)) (.pointer (some ⟨b2, 0, none⟩)) rfl rfl rfl (reads_field tfld24_0 _ _) ?_
  refine x_load (xv := .pointer (some ⟨b2, 0, none⟩)) (.slice a_p0_0 (p0_0).length c_p0_0) rfl rfl rfl (reads_box tcell22 hb2 nn 0 _ rfl) ?_
  refine x_len (vs := [.slice a_p0_0 (p0_0).length c_p0_0]) (.int .i64 ((p0_0).length : Int)) rfl rfl rfl (reads_len tsl22 _ _ _ _ _) ?_
  refine x_pure 1 [(8, .bool (decide (((p0_0).length : Int) > 96)))] _ _ _ (by kernel_rfl) ?_
  refine x_end rfl (k_then ?_)
  refine c_cond (decide (((p0_0).length : Int) > 96)) rfl (fun hb => ?_) (fun hb => ?_)
  · replace h := ite_t hb h
    refine c_seq (c_plain ?_)
    refine x_pure 1 [(2, .int .i64 3)] _ _ _ (by kernel_rfl) ?_
    refine x_end rfl (k_then ?_)
    refine c_ret ?_
    refine k_then_ret ?_
    refine r_ret (r_vals [.int .i64 3] ⟨rfl, trivial⟩ ?_)
    have hx := some_inj h
    subst hx
    have hmr : MS w2 [M] := hms.pick [some 1] _ rfl
    have hsu : ∀ x ∈ fl [M], x ∈ fl [[b2], M] := pick_sub [some 1] _ rfl
    exact ⟨rfl, hev⟩
  replace h := ite_f hb h
  refine c_skip ?_
  refine k_then ?_
  refine c_seq ?_
  refine c_seq (c_plain ?_)
  refine x_fieldAddr (xv := .pointer (some ⟨b2, 0, none⟩)) (.pointer (some ⟨b2, 1, none⟩)) rfl rfl rfl (reads_field tfld24_1 _ _) ?_
  refine x_load (xv := .pointer (some ⟨b2, 1, none⟩)) (.int .i64 p0_1) rfl rfl rfl (reads_box tcell3 hb2 nn 1 _ rfl) ?_
  obtain ⟨x6, hx, h⟩ := bind_some h
  have hcall := job_in_w p0_1 0 12 _ w2 hx
  refine x_call 26 #[] #[] [.int .i64 p0_1, .int .i64 0, .int .i64 12] _ rfl rfl rfl rfl hcall ?_
  rintro v w7 ⟨rfl, he7⟩
  clear hcall hx
  refine ⟨.inl rfl, ?_⟩
  have hst := Stp.ext (ls := [[b2], M]) he7
  replace hs_p0_0 := hs_p0_0.step hst
  replace hb2 := he7.box hb2 nn
  replace hms := hms.ev he7
  replace hev := hev.ext he7
  refine x_pure 1 [(12, .bool (!x6))] _ _ _ (by kernel_rfl) ?_
  refine x_end rfl (k_then ?_)
  refine c_cond (!x6) rfl (fun hb => ?_) (fun hb => ?_)
  · replace h := ite_t hb h
    refine c_seq (c_plain ?_)
    refine x_pure 1 [(2, .int .i64 2)] _ _ _ (by kernel_rfl) ?_
    refine x_end rfl (k_then ?_)
    refine c_ret ?_
    refine k_then_ret ?_
    refine r_ret (r_vals [.int .i64 2] ⟨rfl, trivial⟩ ?_)
    have hx := some_inj h
    subst hx
    have hmr : MS w7 [M] := hms.pick [some 1] _ rfl
    have hsu : ∀ x ∈ fl [M], x ∈ fl [[b2], M] := pick_sub [some 1] _ rfl
    exact ⟨rfl, hev⟩
  replace h := ite_f hb h
  refine c_skip ?_
  refine k_then ?_
  refine c_seq ?_
  refine c_seq (c_plain ?_)
  refine x_fieldAddr (xv := .pointer (some ⟨b2, 0, none⟩)) (.pointer (some ⟨b2, 0, none⟩)) rfl rfl rfl (reads_field tfld24_0 _ _) ?_
  refine x_load (xv := .pointer (some ⟨b2, 0, none⟩)) (.slice a_p0_0 (p0_0).length c_p0_0) rfl rfl rfl (reads_box tcell22 hb2 nn 0 _ rfl) ?_
  refine x_len (vs := [.slice a_p0_0 (p0_0).length c_p0_0]) (.int .i64 ((p0_0).length : Int)) rfl rfl rfl (reads_len tsl22 _ _ _ _ _) ?_
  refine x_pure 1 [(16, .int .i64 0)] _ _ _ (by kernel_rfl) ?_
  refine x_end rfl (k_then ?_)
  refine c_norm [(1, .pointer (some ⟨b2, 0, none⟩)), (14, .slice a_p0_0 (p0_0).length c_p0_0), (15, .int .i64 ((p0_0).length : Int)), (16, .int .i64 0)] ⟨rfl, rfl, rfl, rfl, trivial⟩ (fun J => ?_)
  refine c_block ?_
  obtain ⟨d8, hd8, h8⟩ := bind_some h
  obtain ⟨m8, hd8⟩ := loop_some hd8
  refine c_loop (loop_rule hmx (σ := Nat × Int) (fun s => match s with | (_, t16__s16_l8) => [(1, .pointer (some ⟨b2, 0, none⟩)), (14, .slice a_p0_0 (p0_0).length c_p0_0), (15, .int .i64 ((p0_0).length : Int)), (16, .int .i64 t16__s16_l8)]) (fun s w' => match s with | (m, t16__s16_l8) => loopN (job_Valid_L8 p0_0) m t16__s16_l8 = some d8 ∧ Ev [] w w' ∧ MS w' [[b2], M] ∧ FR w.heap.size [[b2]] ∧ SlR (eProd (eInt .i64) (eProd (eInt .i64) (eProd (eInt .i64) (eInt .i64)))) w' (fl [[b2], M]) a_p0_0 c_p0_0 p0_0 ∧ w'.heap[b2]? = some (.cells #[.slice a_p0_0 (p0_0).length c_p0_0, .int .i64 p0_1] 24 (0, 0))) (fun s => s.1) (m8, 0) ⟨rfl, rfl, rfl, rfl, trivial⟩ ⟨hd8, hev, hms, hfr, hs_p0_0, hb2⟩ ?_)
  rintro ⟨m8, t16__s16_l8⟩ J wl8 ⟨hn8, hev, hms, hfr, hs_p0_0, hb2⟩
  rcases m8 with _ | m8
  · exact (loopN_zero hn8).elim
  obtain ⟨t8, h, hn8⟩ := bind_some hn8
  refine c_seq (c_plain ?_)
  refine x_pure 1 [(17, .bool (decide (t16__s16_l8 < ((p0_0).length : Int))))] _ _ _ (by kernel_rfl) ?_
  refine x_end rfl (k_then ?_)
  refine c_norm [(1, .pointer (some ⟨b2, 0, none⟩)), (14, .slice a_p0_0 (p0_0).length c_p0_0), (15, .int .i64 ((p0_0).length : Int)), (16, .int .i64 t16__s16_l8), (17, .bool (decide (t16__s16_l8 < ((p0_0).length : Int))))] ⟨rfl, rfl, rfl, rfl, rfl, trivial⟩ (fun J => ?_)
  refine c_seq ?_
  refine c_cond (decide (t16__s16_l8 < ((p0_0).length : Int))) rfl (fun hb => ?_) (fun hb => ?_)
  · replace h := ite_t hb h
    refine c_skip ?_
    refine k_then ?_
    refine c_seq ?_
    refine c_block ?_
    refine c_seq (c_plain ?_)
    refine x_pure 1 [(18, .int .i64 t16__s16_l8)] _ _ _ (by kernel_rfl) ?_
    obtain ⟨x10, hx10, h⟩ := bind_some h
    obtain ⟨ad10, cs10, hr10, hc10, hR⟩ := reads_index (Mo := []) tsl22 hs_p0_0 hx10
    obtain ⟨_, _, rfl, rfl, ⟨_, _, rfl, rfl, ⟨_, _, rfl, rfl, rfl⟩⟩⟩ := hR
    refine x_indexAddr (xv := .slice a_p0_0 (p0_0).length c_p0_0) (yv := .int .i64 t16__s16_l8) (.pointer (some ad10)) rfl rfl rfl rfl hr10 ?_
    refine x_load (xv := .pointer (some ad10)) (.agg #[.int .i64 x10.1, .int .i64 x10.2.1, .int .i64 x10.2.2.1, .int .i64 x10.2.2.2]) rfl rfl rfl (reads_agg tagg26 hc10 (fun _ h => by cases h)) ?_
    refine x_alloc (z := .agg #[.int .i64 0, .int .i64 0, .int .i64 0, .int .i64 0]) rfl rfl (by kernel_rfl) (fun b12 w12 hq12 hb12 he12 hz12 => ?_)
    replace hb12 : w12.heap[b12]? = some (.cells #[.int .i64 0, .int .i64 0, .int .i64 0, .int .i64 0] 26 (0, 0)) := hb12
    refine ⟨.inl rfl, ?_⟩
    have hst := Stp.box (ls := [[b2], M]) he12 hq12
    replace hb2 := he12.box hb2 nn
    replace hs_p0_0 := hs_p0_0.step hst
    replace hc10 := hc10.step hst
    replace hms := hms.box he12 hq12 hb12
    replace hfr := hfr.box hev.size hq12
    replace hev := hev.ext he12
    refine x_pure 1 [(3, .int .i64 t16__s16_l8)] _ _ _ (by kernel_rfl) ?_
    obtain ⟨w14, hr14, hb14, he14⟩ := store_boxagg 0 [.int .i64 x10.1, .int .i64 x10.2.1, .int .i64 x10.2.2.1, .int .i64 x10.2.2.2] #[.int .i64 x10.1, .int .i64 x10.2.1, .int .i64 x10.2.2.1, .int .i64 x10.2.2.2] tagg26 hb12 rfl rfl rfl
    refine x_store w14 (xv := .pointer (some ⟨b12, 0, none⟩)) (yv := .agg #[.int .i64 x10.1, .int .i64 x10.2.1, .int .i64 x10.2.2.1, .int .i64 x10.2.2.2]) rfl rfl rfl rfl hr14 ?_
    refine ⟨.inl rfl, ?_⟩
    have hst := Stp.ev' (ls := [[b12], [b2], M]) he14 (mem_flat 0 rfl)
    replace hb2 := he14.box hb2 (hms.apart 1 0 rfl rfl rfl _ (List.mem_singleton.2 rfl))
    replace hs_p0_0 := hs_p0_0.step hst
    replace hc10 := hc10.step hst
    replace hms := hms.ev he14
    replace hev := hev.then he14 (fun b hb => .inr (hfr.at 0 rfl b hb))
    replace hb12 := hb14
    refine x_end rfl (k_then ?_)
    refine c_seq ?_
    refine c_seq (c_plain ?_)
    refine x_fieldAddr (xv := .pointer (some ⟨b12, 0, none⟩)) (.pointer (some ⟨b12, 0, none⟩)) rfl rfl rfl (reads_field tfld26_0 _ _) ?_
    refine x_load (xv := .pointer (some ⟨b12, 0, none⟩)) (.int .i64 x10.1) rfl rfl rfl (reads_box tcell3 hb12 nn 0 _ rfl) ?_
    obtain ⟨x16, hx, h⟩ := bind_some h
    have hcall := job_in_w x10.1 0 15 _ w14 hx
    refine x_call 26 #[] #[] [.int .i64 x10.1, .int .i64 0, .int .i64 15] _ rfl rfl rfl rfl hcall ?_
    rintro v w17 ⟨rfl, he17⟩
    clear hcall hx
    refine ⟨.inl rfl, ?_⟩
    have hst := Stp.ext (ls := [[b12], [b2], M]) he17
    replace hb2 := he17.box hb2 nn
    replace hs_p0_0 := hs_p0_0.step hst
    replace hb12 := he17.box hb12 nn
    replace hms := hms.ev he17
    replace hev := hev.ext he17
    refine x_pure 2 [(24, .bool (!x16)), (25, .bool (!x16))] _ _ _ (by kernel_rfl) ?_
    refine x_split 25 (!x16) rfl (fun hb => ?_) (fun hb => ?_)
    · replace h := ite_t hb h
      refine x_pure 17 [(26, undef), (27, undef), (28, undef), (29, undef), (30, .bool true), (31, .bool true), (32, undef), (33, undef), (34, undef), (35, undef), (36, .bool true), (37, .bool true), (38, undef), (39, undef), (40, undef), (41, undef), (42, .bool true)] _ _ _ (by kernel_rfl) ?_
      refine x_end rfl (k_then ?_)
      refine c_norm [(1, .pointer (some ⟨b2, 0, none⟩)), (3, .int .i64 t16__s16_l8), (4, .pointer (some ⟨b12, 0, none⟩)), (14, .slice a_p0_0 (p0_0).length c_p0_0), (15, .int .i64 ((p0_0).length : Int)), (16, .int .i64 t16__s16_l8), (42, .bool true)] ⟨rfl, rfl, rfl, rfl, rfl, rfl, rfl, trivial⟩ (fun J => ?_)
      refine c_true rfl ?_
      refine c_seq (c_plain ?_)
      refine x_pure 1 [(2, .int .i64 2)] _ _ _ (by kernel_rfl) ?_
      refine x_end rfl (k_then ?_)
      refine c_ret ?_
      refine k_then_ret ?_
      refine k_block_ret ?_
      refine k_then_ret ?_
      have hx := some_inj h
      subst hx
      have hy := some_inj hn8
      subst hy
      replace h := h8
      refine k_then_ret ?_
      refine k_block_ret ?_
      refine k_then_ret ?_
      refine r_ret (r_vals [.int .i64 2] ⟨rfl, trivial⟩ ?_)
      have hx := some_inj h
      subst hx
      have hmr : MS w17 [M] := hms.pick [some 2] _ rfl
      have hsu : ∀ x ∈ fl [M], x ∈ fl [[b12], [b2], M] := pick_sub [some 2] _ rfl
      exact ⟨rfl, hev⟩
    replace h := ite_f hb h
    refine x_fieldAddr (xv := .pointer (some ⟨b12, 0, none⟩)) (.pointer (some ⟨b12, 1, none⟩)) rfl rfl rfl (reads_field tfld26_1 _ _) ?_
    refine x_load (xv := .pointer (some ⟨b12, 1, none⟩)) (.int .i64 x10.2.1) rfl rfl rfl (reads_box tcell3 hb12 nn 1 _ rfl) ?_
    obtain ⟨x18, hx, h⟩ := bind_some h
    have hcall := job_in_w x10.2.1 0 31 _ w17 hx
    refine x_call 26 #[] #[] [.int .i64 x10.2.1, .int .i64 0, .int .i64 31] _ rfl rfl rfl rfl hcall ?_
    rintro v w19 ⟨rfl, he19⟩
    clear hcall hx
    refine ⟨.inl rfl, ?_⟩
    have hst := Stp.ext (ls := [[b12], [b2], M]) he19
    replace hb2 := he19.box hb2 nn
    replace hs_p0_0 := hs_p0_0.step hst
    replace hb12 := he19.box hb12 nn
    replace hms := hms.ev he19
    replace hev := hev.ext he19
    refine x_pure 3 [(29, .bool (!x18)), (30, .bool (!x18)), (31, .bool (!x18))] _ _ _ (by kernel_rfl) ?_
    refine x_split 31 (!x18) rfl (fun hb => ?_) (fun hb => ?_)
    · replace h := ite_t hb h
      refine x_pure 11 [(32, undef), (33, undef), (34, undef), (35, undef), (36, .bool true), (37, .bool true), (38, undef), (39, undef), (40, undef), (41, undef), (42, .bool true)] _ _ _ (by kernel_rfl) ?_
      refine x_end rfl (k_then ?_)
      refine c_norm [(1, .pointer (some ⟨b2, 0, none⟩)), (3, .int .i64 t16__s16_l8), (4, .pointer (some ⟨b12, 0, none⟩)), (14, .slice a_p0_0 (p0_0).length c_p0_0), (15, .int .i64 ((p0_0).length : Int)), (16, .int .i64 t16__s16_l8), (42, .bool true)] ⟨rfl, rfl, rfl, rfl, rfl, rfl, rfl, trivial⟩ (fun J => ?_)
      refine c_true rfl ?_
      refine c_seq (c_plain ?_)
      refine x_pure 1 [(2, .int .i64 2)] _ _ _ (by kernel_rfl) ?_
      refine x_end rfl (k_then ?_)
      refine c_ret ?_
      refine k_then_ret ?_
      refine k_block_ret ?_
      refine k_then_ret ?_
      have hx := some_inj h
      subst hx
      have hy := some_inj hn8
      subst hy
      replace h := h8
      refine k_then_ret ?_
      refine k_block_ret ?_
      refine k_then_ret ?_
      refine r_ret (r_vals [.int .i64 2] ⟨rfl, trivial⟩ ?_)
      have hx := some_inj h
      subst hx
      have hmr : MS w19 [M] := hms.pick [some 2] _ rfl
      have hsu : ∀ x ∈ fl [M], x ∈ fl [[b12], [b2], M] := pick_sub [some 2] _ rfl
      exact ⟨rfl, hev⟩
    replace h := ite_f hb h
    refine x_fieldAddr (xv := .pointer (some ⟨b12, 0, none⟩)) (.pointer (some ⟨b12, 2, none⟩)) rfl rfl rfl (reads_field tfld26_2 _ _) ?_
    refine x_load (xv := .pointer (some ⟨b12, 2, none⟩)) (.int .i64 x10.2.2.1) rfl rfl rfl (reads_box tcell3 hb12 nn 2 _ rfl) ?_
    obtain ⟨x20, hx, h⟩ := bind_some h
    have hcall := job_in_w x10.2.2.1 0 12 _ w19 hx
    refine x_call 26 #[] #[] [.int .i64 x10.2.2.1, .int .i64 0, .int .i64 12] _ rfl rfl rfl rfl hcall ?_
    rintro v w21 ⟨rfl, he21⟩
    clear hcall hx
    refine ⟨.inl rfl, ?_⟩
    have hst := Stp.ext (ls := [[b12], [b2], M]) he21
    replace hb2 := he21.box hb2 nn
    replace hs_p0_0 := hs_p0_0.step hst
    replace hb12 := he21.box hb12 nn
    replace hms := hms.ev he21
    replace hev := hev.ext he21
    refine x_pure 3 [(35, .bool (!x20)), (36, .bool (!x20)), (37, .bool (!x20))] _ _ _ (by kernel_rfl) ?_
    refine x_split 37 (!x20) rfl (fun hb => ?_) (fun hb => ?_)
    · replace h := ite_t hb h
      refine x_pure 5 [(38, undef), (39, undef), (40, undef), (41, undef), (42, .bool true)] _ _ _ (by kernel_rfl) ?_
      refine x_end rfl (k_then ?_)
      refine c_norm [(1, .pointer (some ⟨b2, 0, none⟩)), (3, .int .i64 t16__s16_l8), (4, .pointer (some ⟨b12, 0, none⟩)), (14, .slice a_p0_0 (p0_0).length c_p0_0), (15, .int .i64 ((p0_0).length : Int)), (16, .int .i64 t16__s16_l8), (42, .bool true)] ⟨rfl, rfl, rfl, rfl, rfl, rfl, rfl, trivial⟩ (fun J => ?_)
      refine c_true rfl ?_
      refine c_seq (c_plain ?_)
      refine x_pure 1 [(2, .int .i64 2)] _ _ _ (by kernel_rfl) ?_
      refine x_end rfl (k_then ?_)
      refine c_ret ?_
      refine k_then_ret ?_
      refine k_block_ret ?_
      refine k_then_ret ?_
      have hx := some_inj h
      subst hx
      have hy := some_inj hn8
      subst hy
      replace h := h8
      refine k_then_ret ?_
      refine k_block_ret ?_
      refine k_then_ret ?_
      refine r_ret (r_vals [.int .i64 2] ⟨rfl, trivial⟩ ?_)
      have hx := some_inj h
      subst hx
      have hmr : MS w21 [M] := hms.pick [some 2] _ rfl
      have hsu : ∀ x ∈ fl [M], x ∈ fl [[b12], [b2], M] := pick_sub [some 2] _ rfl
      exact ⟨rfl, hev⟩
    replace h := ite_f hb h
    refine x_fieldAddr (xv := .pointer (some ⟨b12, 0, none⟩)) (.pointer (some ⟨b12, 3, none⟩)) rfl rfl rfl (reads_field tfld26_3 _ _) ?_
    refine x_load (xv := .pointer (some ⟨b12, 3, none⟩)) (.int .i64 x10.2.2.2) rfl rfl rfl (reads_box tcell3 hb12 nn 3 _ rfl) ?_
    obtain ⟨x22, hx, h⟩ := bind_some h
    have hcall := job_in_w x10.2.2.2 1 400 _ w21 hx
    refine x_call 26 #[] #[] [.int .i64 x10.2.2.2, .int .i64 1, .int .i64 400] _ rfl rfl rfl rfl hcall ?_
    rintro v w23 ⟨rfl, he23⟩
    clear hcall hx
    refine ⟨.inl rfl, ?_⟩
    have hst := Stp.ext (ls := [[b12], [b2], M]) he23
    replace hb2 := he23.box hb2 nn
    replace hs_p0_0 := hs_p0_0.step hst
    replace hb12 := he23.box hb12 nn
    replace hms := hms.ev he23
    replace hev := hev.ext he23
    refine x_pure 2 [(41, .bool (!x22)), (42, .bool (!x22))] _ _ _ (by kernel_rfl) ?_
    refine x_end rfl (k_then ?_)
    refine c_norm [(1, .pointer (some ⟨b2, 0, none⟩)), (3, .int .i64 t16__s16_l8), (4, .pointer (some ⟨b12, 0, none⟩)), (14, .slice a_p0_0 (p0_0).length c_p0_0), (15, .int .i64 ((p0_0).length : Int)), (16, .int .i64 t16__s16_l8), (42, .bool (!x22))] ⟨rfl, rfl, rfl, rfl, rfl, rfl, rfl, trivial⟩ (fun J => ?_)
    refine c_cond (!x22) rfl (fun hb => ?_) (fun hb => ?_)
    · replace h := ite_t hb h
      refine c_seq (c_plain ?_)
      refine x_pure 1 [(2, .int .i64 2)] _ _ _ (by kernel_rfl) ?_
      refine x_end rfl (k_then ?_)
      refine c_ret ?_
      refine k_then_ret ?_
      refine k_block_ret ?_
      refine k_then_ret ?_
      have hx := some_inj h
      subst hx
      have hy := some_inj hn8
      subst hy
      replace h := h8
      refine k_then_ret ?_
      refine k_block_ret ?_
      refine k_then_ret ?_
      refine r_ret (r_vals [.int .i64 2] ⟨rfl, trivial⟩ ?_)
      have hx := some_inj h
      subst hx
      have hmr : MS w23 [M] := hms.pick [some 2] _ rfl
      have hsu : ∀ x ∈ fl [M], x ∈ fl [[b12], [b2], M] := pick_sub [some 2] _ rfl
      exact ⟨rfl, hev⟩
    replace h := ite_f hb h
    refine c_skip ?_
    refine k_then ?_
    refine c_seq ?_
    refine c_drawn [] [(0, false), (1, false), (2, false), (3, false), (4, false), (5, false), (6, false), (7, false), (8, false), (9, false), (10, false), (11, false), (12, false), (13, false)] _ (by kernel_rfl) rfl ?_
    have hst := Stp.ext (ls := [[b12], [b2], M]) (Ev.drew w23)
    replace hb2 := (Ev.drew w23).box hb2 nn
    replace hs_p0_0 := hs_p0_0.step hst
    replace hb12 := (Ev.drew w23).box hb12 nn
    replace hms := hms.ev (Ev.drew w23)
    replace hev := hev.ext (Ev.drew w23)
    refine x_pure 3 [(43, .int .i64 t16__s16_l8), (44, .bool (decide (t16__s16_l8 > 0))), (45, .bool (decide (t16__s16_l8 > 0)))] _ _ _ (by kernel_rfl) ?_
    refine x_split 45 (decide (t16__s16_l8 > 0)) rfl (fun hb => ?_) (fun hb => ?_)
    · replace h := ite_t hb h
      refine x_fieldAddr (xv := .pointer (some ⟨b12, 0, none⟩)) (.pointer (some ⟨b12, 2, none⟩)) rfl rfl rfl (reads_field tfld26_2 _ _) ?_
      refine x_load (xv := .pointer (some ⟨b12, 2, none⟩)) (.int .i64 x10.2.2.1) rfl rfl rfl (reads_box tcell3 hb12 nn 2 _ rfl) ?_
      refine x_fieldAddr (xv := .pointer (some ⟨b2, 0, none⟩)) (.pointer (some ⟨b2, 0, none⟩)) rfl rfl rfl (reads_field tfld24_0 _ _) ?_
      refine x_load (xv := .pointer (some ⟨b2, 0, none⟩)) (.slice a_p0_0 (p0_0).length c_p0_0) rfl rfl rfl (reads_box tcell22 hb2 nn 0 _ rfl) ?_
      refine x_pure 2 [(50, .int .i64 t16__s16_l8), (51, .int .i64 (IntKind.i64.wrap (t16__s16_l8 - 1)))] _ _ _ (by kernel_rfl) ?_
      obtain ⟨x24, hx24, h⟩ := bind_some h
      obtain ⟨ad24, cs24, hr24, hc24, hR⟩ := reads_index (Mo := []) tsl22 hs_p0_0 hx24
      obtain ⟨_, _, rfl, rfl, ⟨_, _, rfl, rfl, ⟨_, _, rfl, rfl, rfl⟩⟩⟩ := hR
      refine x_indexAddr (xv := .slice a_p0_0 (p0_0).length c_p0_0) (yv := .int .i64 (IntKind.i64.wrap (t16__s16_l8 - 1))) (.pointer (some ad24)) rfl rfl rfl rfl hr24 ?_
      refine x_fieldAddr (xv := .pointer (some ad24)) (.pointer (some (Addr.add ad24 2))) rfl rfl rfl (reads_field tfld26_2 _ _) ?_
      refine x_load (xv := .pointer (some (Addr.add ad24 2))) (.int .i64 x24.2.2.1) rfl rfl rfl (reads_cell tcell3 hc24 (fun _ h => by cases h) 2 _ rfl) ?_
      refine x_pure 2 [(55, .bool (decide (x10.2.2.1 < x24.2.2.1))), (56, .bool (decide (x10.2.2.1 < x24.2.2.1)))] _ _ _ (by kernel_rfl) ?_
      refine x_end rfl (k_then ?_)
      refine c_norm [(1, .pointer (some ⟨b2, 0, none⟩)), (14, .slice a_p0_0 (p0_0).length c_p0_0), (15, .int .i64 ((p0_0).length : Int)), (16, .int .i64 t16__s16_l8), (56, .bool (decide (x10.2.2.1 < x24.2.2.1)))] ⟨rfl, rfl, rfl, rfl, rfl, trivial⟩ (fun J => ?_)
      refine c_cond (decide (x10.2.2.1 < x24.2.2.1)) rfl (fun hb => ?_) (fun hb => ?_)
      · replace h := ite_t hb h
        refine c_seq (c_plain ?_)
        refine x_pure 1 [(2, .int .i64 12)] _ _ _ (by kernel_rfl) ?_
        refine x_end rfl (k_then ?_)
        refine c_ret ?_
        refine k_block_ret ?_
        refine k_then_ret ?_
        have hx := some_inj h
        subst hx
        have hy := some_inj hn8
        subst hy
        replace h := h8
        refine k_then_ret ?_
        refine k_block_ret ?_
        refine k_then_ret ?_
        refine r_ret (r_vals [.int .i64 12] ⟨rfl, trivial⟩ ?_)
        have hx := some_inj h
        subst hx
        have hmr : MS (w23).drew [M] := hms.pick [some 2] _ rfl
        have hsu : ∀ x ∈ fl [M], x ∈ fl [[b12], [b2], M] := pick_sub [some 2] _ rfl
        exact ⟨rfl, hev⟩
      replace h := ite_f hb h
      refine c_skip ?_
      refine k_block ?_
      refine k_then ?_
      refine c_plain ?_
      refine x_pure 2 [(57, .int .i64 (IntKind.i64.wrap (t16__s16_l8 + 1))), (16, .int .i64 (IntKind.i64.wrap (t16__s16_l8 + 1)))] _ _ _ (by kernel_rfl) ?_
      refine x_end rfl ?_
      have hx := some_inj h
      subst hx
      have hpk : MS (w23).drew [[b2], M] := hms.pick [some 1, some 2] _ rfl
      have hsu : ∀ x ∈ fl [[b2], M], x ∈ fl [[b12], [b2], M] := pick_sub [some 1, some 2] _ rfl
      replace hs_p0_0 := hs_p0_0.sub hsu
      replace hms := hpk
      replace hfr : FR w.heap.size [[b2]] := hfr.pick [some 1] _ rfl
      clear hpk hsu
      exact k_then ⟨(m8, IntKind.i64.wrap (t16__s16_l8 + 1)), ⟨rfl, rfl, rfl, rfl, trivial⟩, ⟨hn8, hev, hms, hfr, hs_p0_0, hb2⟩, Nat.lt_succ_self _⟩
    replace h := ite_f hb h
    refine x_pure 11 [(46, undef), (47, undef), (48, undef), (49, undef), (50, undef), (51, undef), (52, undef), (53, undef), (54, undef), (55, undef), (56, .bool false)] _ _ _ (by kernel_rfl) ?_
    refine x_end rfl (k_then ?_)
    refine c_norm [(1, .pointer (some ⟨b2, 0, none⟩)), (14, .slice a_p0_0 (p0_0).length c_p0_0), (15, .int .i64 ((p0_0).length : Int)), (16, .int .i64 t16__s16_l8), (56, .bool false)] ⟨rfl, rfl, rfl, rfl, rfl, trivial⟩ (fun J => ?_)
    refine c_false rfl ?_
    refine c_skip ?_
    refine k_block ?_
    refine k_then ?_
    refine c_plain ?_
    refine x_pure 2 [(57, .int .i64 (IntKind.i64.wrap (t16__s16_l8 + 1))), (16, .int .i64 (IntKind.i64.wrap (t16__s16_l8 + 1)))] _ _ _ (by kernel_rfl) ?_
    refine x_end rfl ?_
    have hx := some_inj h
    subst hx
    have hpk : MS (w23).drew [[b2], M] := hms.pick [some 1, some 2] _ rfl
    have hsu : ∀ x ∈ fl [[b2], M], x ∈ fl [[b12], [b2], M] := pick_sub [some 1, some 2] _ rfl
    replace hs_p0_0 := hs_p0_0.sub hsu
    replace hms := hpk
    replace hfr : FR w.heap.size [[b2]] := hfr.pick [some 1] _ rfl
    clear hpk hsu
    exact k_then ⟨(m8, IntKind.i64.wrap (t16__s16_l8 + 1)), ⟨rfl, rfl, rfl, rfl, trivial⟩, ⟨hn8, hev, hms, hfr, hs_p0_0, hb2⟩, Nat.lt_succ_self _⟩
  replace h := ite_f hb h
  refine c_exit ?_
  refine k_then_exit ?_
  have hx := some_inj h
  subst hx
  have hy := some_inj hn8
  subst hy
  replace h := h8
  refine k_then_exit ?_
  refine k_block_in ?_
  refine k_then ?_
  refine c_norm [] trivial (fun J => ?_)
  refine c_seq (c_plain ?_)
  refine x_pure 1 [(2, .int .i64 0)] _ _ _ (by kernel_rfl) ?_
  refine x_end rfl (k_then ?_)
  refine c_ret ?_
  refine r_ret (r_vals [.int .i64 0] ⟨rfl, trivial⟩ ?_)
  have hx := some_inj h
  subst hx
  have hmr : MS wl8 [M] := hms.pick [some 1] _ rfl
  have hsu : ∀ x ∈ fl [M], x ∈ fl [[b2], M] := pick_sub [some 1] _ rfl
  exact ⟨rfl, hev⟩
def job_byBlock_1 (p0 : Int) (p1 : Int) (p2_0 : List (Int × Int × Int × Int)) (p2_1 : Int) : Option Int :=
((idx p2_0 p0).bind fun x3 =>
((idx p2_0 p1).bind fun x5 =>
some (IntKind.i64.wrap (x3.2.1 - x5.2.1))))

theorem job_byBlock_1_w (p0 : Int) (p1 : Int) (b_p2 : Nat) (a_p2_0 : Option Addr) (c_p2_0 : Nat) (p2_0 : List (Int × Int × Int × Int)) (p2_1 : Int) (r : Int) (w : World) (M : List Nat) (hms : MS w [[b_p2], M]) (hs_p2_0 : SlR (eProd (eInt .i64) (eProd (eInt .i64) (eProd (eInt .i64) (eInt .i64)))) w (fl [[b_p2], M]) a_p2_0 c_p2_0 p2_0) (hb_p2 : w.heap[b_p2]? = some (.cells #[.slice a_p2_0 (p2_0).length c_p2_0, .int .i64 p2_1] 24 (0, 0))) (h : job_byBlock_1 p0 p1 p2_0 p2_1 = some r) : CallVC Try.prog 43 [.int .i64 p0, .int .i64 p1, .pointer (some ⟨b_p2, 0, none⟩)] w fun v w' => (∃ q, w' = w.drewN q) ∧ v = .int .i64 r ∧ Ev [b_p2] w w' ∧ w'.heap[b_p2]? = some (.cells #[.slice a_p2_0 (p2_0).length c_p2_0, .int .i64 p2_1] 24 (0, 0)) := by
  refine calls_vc hmx Try.func43 (by kernel_rfl) rfl (rs := [.tmp 5]) rfl (by kernel_rfl) (args := [.int .i64 p0, .int .i64 p1, .pointer (some ⟨b_p2, 0, none⟩)]) rfl ?_
  have hev : Ev [b_p2] w w := Ev.refl _ _
  have hfr : FR w.heap.size [] := FR.nil _
  refine c_seq (c_plain ?_)
  refine x_pure 1 [(5, .int .i64 0)] _ _ _ (by kernel_rfl) ?_
  refine x_end rfl (k_then ?_)
  refine c_seq ?_
  refine c_drawn [] [(0, false), (1, false), (2, false), (3, false), (4, false), (5, false), (6, false), (7, false), (8, false), (9, false), (10, false), (11, false), (12, false), (13, false)] _ (by kernel_rfl) rfl ?_
  have hst := Stp.ext (ls := [[b_p2], M]) (Ev.drew w)
  replace hs_p2_0 := hs_p2_0.step hst
  replace hb_p2 := (Ev.drew w).box hb_p2 nn
  replace hms := hms.ev (Ev.drew w)
  replace hev := hev.ext (Ev.drew w)
  refine x_fieldAddr (xv := .pointer (some ⟨b_p2, 0, none⟩)) (.pointer (some ⟨b_p2, 0, none⟩)) rfl rfl rfl (reads_field tfld24_0 _ _) ?_
  refine x_load (xv := .pointer (some ⟨b_p2, 0, none⟩)) (.slice a_p2_0 (p2_0).length c_p2_0) rfl rfl rfl (reads_box tcell22 hb_p2 nn 0 _ rfl) ?_
  refine x_pure 1 [(8, .int .i64 p0)] _ _ _ (by kernel_rfl) ?_
  obtain ⟨x3, hx3, h⟩ := bind_some h
  obtain ⟨ad3, cs3, hr3, hc3, hR⟩ := reads_index (Mo := []) tsl22 hs_p2_0 hx3
  obtain ⟨_, _, rfl, rfl, ⟨_, _, rfl, rfl, ⟨_, _, rfl, rfl, rfl⟩⟩⟩ := hR
  refine x_indexAddr (xv := .slice a_p2_0 (p2_0).length c_p2_0) (yv := .int .i64 p0) (.pointer (some ad3)) rfl rfl rfl rfl hr3 ?_
  refine x_fieldAddr (xv := .pointer (some ad3)) (.pointer (some (Addr.add ad3 1))) rfl rfl rfl (reads_field tfld26_1 _ _) ?_
  refine x_load (xv := .pointer (some (Addr.add ad3 1))) (.int .i64 x3.2.1) rfl rfl rfl (reads_cell tcell3 hc3 (fun _ h => by cases h) 1 _ rfl) ?_
  refine x_fieldAddr (xv := .pointer (some ⟨b_p2, 0, none⟩)) (.pointer (some ⟨b_p2, 0, none⟩)) rfl rfl rfl (reads_field tfld24_0 _ _) ?_
  refine x_load (xv := .pointer (some ⟨b_p2, 0, none⟩)) (.slice a_p2_0 (p2_0).length c_p2_0) rfl rfl rfl (reads_box tcell22 hb_p2 nn 0 _ rfl) ?_
  refine x_pure 1 [(14, .int .i64 p1)] _ _ _ (by kernel_rfl) ?_
  obtain ⟨x5, hx5, h⟩ := bind_some h
  obtain ⟨ad5, cs5, hr5, hc5, hR⟩ := reads_index (Mo := []) tsl22 hs_p2_0 hx5
  obtain ⟨_, _, rfl, rfl, ⟨_, _, rfl, rfl, ⟨_, _, rfl, rfl, rfl⟩⟩⟩ := hR
  refine x_indexAddr (xv := .slice a_p2_0 (p2_0).length c_p2_0) (yv := .int .i64 p1) (.pointer (some ad5)) rfl rfl rfl rfl hr5 ?_
  refine x_fieldAddr (xv := .pointer (some ad5)) (.pointer (some (Addr.add ad5 1))) rfl rfl rfl (reads_field tfld26_1 _ _) ?_
  refine x_load (xv := .pointer (some (Addr.add ad5 1))) (.int .i64 x5.2.1) rfl rfl rfl (reads_cell tcell3 hc5 (fun _ h => by cases h) 1 _ rfl) ?_
  refine x_pure 2 [(18, .int .i64 (IntKind.i64.wrap (x3.2.1 - x5.2.1))), (5, .int .i64 (IntKind.i64.wrap (x3.2.1 - x5.2.1)))] _ _ _ (by kernel_rfl) ?_
  refine x_end rfl (k_then ?_)
  refine c_norm [(5, .int .i64 (IntKind.i64.wrap (x3.2.1 - x5.2.1)))] ⟨rfl, trivial⟩ (fun J => ?_)
  refine c_ret ?_
  refine r_ret (r_vals [.int .i64 (IntKind.i64.wrap (x3.2.1 - x5.2.1))] ⟨rfl, trivial⟩ ?_)
  have hx := some_inj h
  subst hx
  have hmr : MS (w).drew [[b_p2], M] := hms.pick [some 0, some 1] _ rfl
  have hsu : ∀ x ∈ fl [[b_p2], M], x ∈ fl [[b_p2], M] := pick_sub [some 0, some 1] _ rfl
  exact ⟨⟨1, rfl⟩, rfl, hev, hb_p2⟩
def job_byBlock_L7 (p0_0 : List (Int × Int × Int × Int)) (s : (List Int) × Int) : Option (Step ((List Int) × Int) (List Int)) :=
match s with
| (d5_l7, t11__s11_l7) =>
(if (decide (t11__s11_l7 < (((List.replicate (Int.toNat ((p0_0).length : Int)) 0 : List Int)).length : Int))) = true then
((idx d5_l7 t11__s11_l7).bind fun x8 =>
some (.next ((d5_l7.set (Int.toNat t11__s11_l7) t11__s11_l7), IntKind.i64.wrap (t11__s11_l7 + 1))))
else
some (.done d5_l7))

def job_byBlock (p0_0 : List (Int × Int × Int × Int)) (p0_1 : Int) : Option (List Int) :=
(if (0 : Int) ≤ ((p0_0).length : Int) ∧ (((p0_0).length : Int) : Int) ≤ 4294967296 then
((loop (job_byBlock_L7 p0_0) ((List.replicate (Int.toNat ((p0_0).length : Int)) 0 : List Int), 0)).bind fun d => match d with
| d5_x7 => ((sortF (fun sx sy => job_byBlock_1 sx sy p0_0 p0_1) d5_x7).bind fun x11 =>
some x11))
else none)

theorem job_byBlock_w (a_p0_0 : Option Addr) (c_p0_0 : Nat) (p0_0 : List (Int × Int × Int × Int)) (p0_1 : Int) (r : (List Int)) (w : World) (M : List Nat) (hms : MS w [M]) (hs_p0_0 : SlR (eProd (eInt .i64) (eProd (eInt .i64) (eProd (eInt .i64) (eInt .i64)))) w (fl [M]) a_p0_0 c_p0_0 p0_0) (h : job_byBlock p0_0 p0_1 = some r) : CallVC Try.prog 38 [.agg #[.slice a_p0_0 (p0_0).length c_p0_0, .int .i64 p0_1]] w fun v w' => ∃ (a0' : Option Addr), ∃ (c0' : Nat), v = .slice a0' (r).length c0' ∧ Ev [] w w' ∧ MS w' [blk a0', M] ∧ FR w.heap.size [blk a0'] ∧ OwnS (eInt .i64) 3 w' (fl [blk a0', M]) a0' c0' r := by
  refine calls_vc hmx Try.func38 (by kernel_rfl) rfl (rs := [.tmp 2]) rfl (by kernel_rfl) (args := [.agg #[.slice a_p0_0 (p0_0).length c_p0_0, .int .i64 p0_1]]) rfl ?_
  have hev : Ev [] w w := Ev.refl _ _
  have hfr : FR w.heap.size [] := FR.nil _
  refine c_seq (c_plain ?_)
  refine x_box (xv := .agg #[.slice a_p0_0 (p0_0).length c_p0_0, .int .i64 p0_1]) rfl rfl rfl (fun b2 w2 hq2 hb2 he2 hz2 => ?_)
  replace hb2 : w2.heap[b2]? = some (.cells #[.slice a_p0_0 (p0_0).length c_p0_0, .int .i64 p0_1] 24 (0, 0)) := hb2
  refine ⟨.inl rfl, ?_⟩
  have hst := Stp.box (ls := [M]) he2 hq2
  replace hs_p0_0 := hs_p0_0.step hst
  replace hms := hms.box he2 hq2 hb2
  replace hfr := hfr.box hev.size hq2
  replace hev := hev.ext he2
  refine x_pure 1 [(2, .slice none 0 0)] _ _ _ (by kernel_rfl) ?_
  refine x_end rfl (k_then ?_)
  refine c_seq (c_plain ?_)
  refine x_fieldAddr (xv := .pointer (some ⟨b2, 0, none⟩)) (.pointer (some ⟨b2, 0, none⟩)) rfl rfl rfl (reads_field tfld24_0 _ _) ?_
  refine x_load (xv := .pointer (some ⟨b2, 0, none⟩)) (.slice a_p0_0 (p0_0).length c_p0_0) rfl rfl rfl (reads_box tcell22 hb2 nn 0 _ rfl) ?_
  refine x_len (vs := [.slice a_p0_0 (p0_0).length c_p0_0]) (.int .i64 ((p0_0).length : Int)) rfl rfl rfl (reads_len tsl22 _ _ _ _ _) ?_
  have hg := guard_l h
  replace h := guard_r h
  obtain ⟨a4, c4, w4, hr4, he4, hn4, hw4⟩ := own_make (e := (eInt .i64)) tel27 w2 ((p0_0).length : Int) hg.1 hg.2 0 (fun _ _ => rfl)
  refine x_makeSlice _ w4 (xv := .int .i64 ((p0_0).length : Int)) (yv := .int .i64 ((p0_0).length : Int)) rfl rfl rfl rfl hr4 ?_
  refine ⟨.inl rfl, ?_⟩
  have hst := Stp.push (ls := [[b2], M]) (l := blk a4) he4 (fun _ h => by cases h) (fun b hb => (hn4 b hb).1)
  replace hs_p0_0 := hs_p0_0.step hst
  replace hb2 := he4.box hb2 nn
  replace hms := hms.push he4 hn4
  replace hfr := hfr.push (fun b hb => Nat.le_trans hev.size (hn4 b hb).1)
  replace hev := hev.ext he4
  have ho4 := hw4 (fl [blk a4, [b2], M])
  clear hw4
  refine x_pure 1 [(3, .slice a4 ((List.replicate (Int.toNat ((p0_0).length : Int)) 0 : List Int)).length c4)] _ _ _ (by kernel_rfl) ?_
  refine x_end rfl (k_then ?_)
  refine c_seq ?_
  refine c_seq (c_plain ?_)
  refine x_pure 1 [(9, .slice a4 ((List.replicate (Int.toNat ((p0_0).length : Int)) 0 : List Int)).length c4)] _ _ _ (by kernel_rfl) ?_
  refine x_len (vs := [.slice a4 ((List.replicate (Int.toNat ((p0_0).length : Int)) 0 : List Int)).length c4]) (.int .i64 (((List.replicate (Int.toNat ((p0_0).length : Int)) 0 : List Int)).length : Int)) rfl rfl rfl (reads_len tsl27 _ _ _ _ _) ?_
  refine x_pure 1 [(11, .int .i64 0)] _ _ _ (by kernel_rfl) ?_
  refine x_end rfl (k_then ?_)
  refine c_block ?_
  have hpk : MS w4 [[b2], blk a4, M] := hms.pick [some 1, some 0, some 2] _ rfl
  have hsu : ∀ x ∈ fl [[b2], blk a4, M], x ∈ fl [blk a4, [b2], M] := pick_sub [some 1, some 0, some 2] _ rfl
  replace hs_p0_0 := hs_p0_0.sub hsu
  replace ho4 := ho4.sub hsu
  replace hms := hpk
  replace hfr : FR w.heap.size [[b2], blk a4] := hfr.pick [some 1, some 0] _ rfl
  clear hpk hsu
  obtain ⟨d7, hd7, h7⟩ := bind_some h
  obtain ⟨m7, hd7⟩ := loop_some hd7
  refine c_loop (loop_rule hmx (σ := Nat × (List Int) × Int × Option Addr) (fun s => match s with | (_, d5_l7, t11__s11_l7, a5_l7) => [(1, .pointer (some ⟨b2, 0, none⟩)), (3, .slice a5_l7 (d5_l7).length c4), (10, .int .i64 (((List.replicate (Int.toNat ((p0_0).length : Int)) 0 : List Int)).length : Int)), (11, .int .i64 t11__s11_l7)]) (fun s w' => match s with | (m, d5_l7, t11__s11_l7, a5_l7) => loopN (job_byBlock_L7 p0_0) m (d5_l7, t11__s11_l7) = some d7 ∧ Ev [] w w' ∧ MS w' [[b2], blk a5_l7, M] ∧ FR w.heap.size [[b2], blk a5_l7] ∧ SlR (eProd (eInt .i64) (eProd (eInt .i64) (eProd (eInt .i64) (eInt .i64)))) w' (fl [[b2], blk a5_l7, M]) a_p0_0 c_p0_0 p0_0 ∧ w'.heap[b2]? = some (.cells #[.slice a_p0_0 (p0_0).length c_p0_0, .int .i64 p0_1] 24 (0, 0)) ∧ OwnS (eInt .i64) 3 w' (fl [[b2], blk a5_l7, M]) a5_l7 c4 d5_l7) (fun s => s.1) (m7, (List.replicate (Int.toNat ((p0_0).length : Int)) 0 : List Int), 0, a4) ⟨rfl, rfl, rfl, rfl, trivial⟩ ⟨hd7, hev, hms, hfr, hs_p0_0, hb2, ho4⟩ ?_)
  rintro ⟨m7, d5_l7, t11__s11_l7, a5_l7⟩ J wl7 ⟨hn7, hev, hms, hfr, hs_p0_0, hb2, ho4⟩
  rcases m7 with _ | m7
  · exact (loopN_zero hn7).elim
  obtain ⟨t7, h, hn7⟩ := bind_some hn7
  refine c_seq (c_plain ?_)
  refine x_pure 1 [(12, .bool (decide (t11__s11_l7 < (((List.replicate (Int.toNat ((p0_0).length : Int)) 0 : List Int)).length : Int))))] _ _ _ (by kernel_rfl) ?_
  refine x_end rfl (k_then ?_)
  refine c_norm [(1, .pointer (some ⟨b2, 0, none⟩)), (3, .slice a5_l7 (d5_l7).length c4), (10, .int .i64 (((List.replicate (Int.toNat ((p0_0).length : Int)) 0 : List Int)).length : Int)), (11, .int .i64 t11__s11_l7), (12, .bool (decide (t11__s11_l7 < (((List.replicate (Int.toNat ((p0_0).length : Int)) 0 : List Int)).length : Int))))] ⟨rfl, rfl, rfl, rfl, rfl, trivial⟩ (fun J => ?_)
  refine c_seq ?_
  refine c_cond (decide (t11__s11_l7 < (((List.replicate (Int.toNat ((p0_0).length : Int)) 0 : List Int)).length : Int))) rfl (fun hb => ?_) (fun hb => ?_)
  · replace h := ite_t hb h
    refine c_skip ?_
    refine k_then ?_
    refine c_seq ?_
    refine c_block ?_
    refine c_seq (c_plain ?_)
    refine x_pure 2 [(13, .int .i64 t11__s11_l7), (4, .int .i64 t11__s11_l7)] _ _ _ (by kernel_rfl) ?_
    refine x_end rfl (k_then ?_)
    refine c_plain ?_
    refine x_pure 3 [(14, .slice a5_l7 (d5_l7).length c4), (15, .int .i64 t11__s11_l7), (16, .int .i64 t11__s11_l7)] _ _ _ (by kernel_rfl) ?_
    obtain ⟨x8, hx8, h⟩ := bind_some h
    obtain ⟨g8, cs8, ha, hr8, hc8, hR⟩ := own_index (Mo := []) tsl27 ho4 hx8
    subst ha
    obtain rfl := hR
    refine x_indexAddr (xv := .slice (some ⟨g8, 0, none⟩) (d5_l7).length c4) (yv := .int .i64 t11__s11_l7) (.pointer (some ⟨g8, (Int.toNat t11__s11_l7) * (eInt .i64).n, none⟩)) rfl rfl rfl rfl hr8 ?_
    obtain ⟨w10, hr10, he10, ho10⟩ := own_store (y := t11__s11_l7) 0 (.int .i64 t11__s11_l7) tcell3 ho4 (mem_flat 1 rfl _ (List.mem_singleton.2 rfl)) hx8 rfl rfl (fun _ _ _ hR => set_int hR)
    refine x_store w10 (xv := .pointer (some ⟨g8, (Int.toNat t11__s11_l7) * (eInt .i64).n, none⟩)) (yv := .int .i64 t11__s11_l7) rfl rfl rfl rfl hr10 ?_
    refine ⟨.inl rfl, ?_⟩
    have hst := Stp.ev' (ls := [[b2], blk (some ⟨g8, 0, none⟩), M]) he10 (mem_flat 1 rfl)
    replace hb2 := he10.box hb2 (hms.apart 0 1 rfl rfl rfl _ (List.mem_singleton.2 rfl))
    replace hs_p0_0 := hs_p0_0.step hst
    replace hms := hms.ev he10
    replace hev := hev.then he10 (fun b hb => .inr (hfr.at 1 rfl b hb))
    replace ho4 := ho10
    have hsl : (Value.slice (some ⟨g8, 0, none⟩) (d5_l7).length c4) = (Value.slice (some ⟨g8, 0, none⟩) ((d5_l7.set (Int.toNat t11__s11_l7) t11__s11_l7)).length c4) := by first | (rw [List.length_set]; done) | simp only [List.length_set]
    try rw [hsl]
    clear hsl
    refine x_end rfl ?_
    refine k_block ?_
    refine k_then ?_
    refine c_plain ?_
    refine x_pure 2 [(18, .int .i64 (IntKind.i64.wrap (t11__s11_l7 + 1))), (11, .int .i64 (IntKind.i64.wrap (t11__s11_l7 + 1)))] _ _ _ (by kernel_rfl) ?_
    refine x_end rfl ?_
    have hx := some_inj h
    subst hx
    exact k_then ⟨(m7, (d5_l7.set (Int.toNat t11__s11_l7) t11__s11_l7), IntKind.i64.wrap (t11__s11_l7 + 1), (some ⟨g8, 0, none⟩)), ⟨rfl, rfl, rfl, rfl, trivial⟩, ⟨hn7, hev, hms, hfr, hs_p0_0, hb2, ho4⟩, Nat.lt_succ_self _⟩
  replace h := ite_f hb h
  refine c_exit ?_
  refine k_then_exit ?_
  have hx := some_inj h
  subst hx
  have hy := some_inj hn7
  subst hy
  replace h := h7
  refine k_then_exit ?_
  refine k_block_in ?_
  refine k_then ?_
  refine c_norm [(1, .pointer (some ⟨b2, 0, none⟩)), (3, .slice a5_l7 (d5_l7).length c4)] ⟨rfl, rfl, trivial⟩ (fun J => ?_)
  refine c_seq (c_plain ?_)
  refine x_pure 1 [(19, .slice a5_l7 (d5_l7).length c4)] _ _ _ (by kernel_rfl) ?_
  refine x_makeFunc 43 #[] #[.pointer (some ⟨b2, 0, none⟩)] rfl rfl rfl rfl ?_
  obtain ⟨x11, hx, h⟩ := bind_some h
  have hcall := sortF_w (P := Try.prog) Lsortfunc (f := 42) (g := 43) rfl ⟨_, Try.func42, by kernel_rfl, rfl⟩ ⟨_, Try.func43, by kernel_rfl, rfl⟩ [.pointer (some ⟨b2, 0, none⟩)] (T := 3) (fun sx sy => job_byBlock_1 sx sy p0_0 p0_1) ho4 (fun w9 sx sy sr he9 hx9 => by
  · have hst9 := Stp.ev' (ls := [[b2], blk a5_l7, M]) he9 (mem_flat 1 rfl)
    have hms9 := hms.ev he9
    have hpk9 : MS w9 ([[b2]] ++ [M]) := hms9.pick [some 0, some 2] _ rfl
    have hsb0 : ∀ x ∈ fl ([[b2]] ++ [M]), x ∈ fl [[b2], blk a5_l7, M] := pick_sub [some 0, some 2] _ rfl
    have hsb9 : ∀ x ∈ fl ([[b2]] ++ [fl [M]]), x ∈ fl [[b2], blk a5_l7, M] := fun x hx => hsb0 x (fl_unfold x hx)
    exact (job_byBlock_1_w sx sy b2 a_p0_0 c_p0_0 p0_0 p0_1 sr w9 (fl [M]) (hpk9.fold (P := [[b2]])) ((hs_p0_0.step hst9).sub hsb9) (he9.box hb2 (hms.apart 0 1 rfl rfl rfl _ (List.mem_singleton.2 rfl))) hx9).mono (fun v u hh => ⟨hh.2.1, hh.1⟩)) hx
  refine x_call 42 #[] #[] [.slice a5_l7 (d5_l7).length c4, (.func (.func 43) #[] #[.pointer (some ⟨b2, 0, none⟩)])] _ rfl rfl rfl rfl hcall ?_
  rintro v w12 ⟨rfl, he12, hln12, hw12⟩
  clear hcall hx
  refine ⟨.inl rfl, ?_⟩
  have hst := Stp.ev' (ls := [[b2], blk a5_l7, M]) he12 (mem_flat 1 rfl)
  replace hb2 := he12.box hb2 (hms.apart 0 1 rfl rfl rfl _ (List.mem_singleton.2 rfl))
  replace hs_p0_0 := hs_p0_0.step hst
  replace hms := hms.ev he12
  replace hev := hev.then he12 (fun b hb => .inr (hfr.at 1 rfl b hb))
  replace ho4 := hw12 (fl [[b2], blk a5_l7, M])
  have hsl : (Value.slice a5_l7 (d5_l7).length c4) = (Value.slice a5_l7 (x11).length c4) := by first | (rw [hln12]; done) | simp only [hln12]
  try rw [hsl]
  clear hsl
  refine x_end rfl (k_then ?_)
  refine c_seq (c_plain ?_)
  refine x_pure 2 [(22, .slice a5_l7 (x11).length c4), (2, .slice a5_l7 (x11).length c4)] _ _ _ (by kernel_rfl) ?_
  refine x_end rfl (k_then ?_)
  refine c_ret ?_
  refine r_ret (r_vals [.slice a5_l7 (x11).length c4] ⟨rfl, trivial⟩ ?_)
  have hx := some_inj h
  subst hx
  have hmr : MS w12 [blk a5_l7, M] := hms.pick [some 1, some 2] _ rfl
  have hsu : ∀ x ∈ fl [blk a5_l7, M], x ∈ fl [[b2], blk a5_l7, M] := pick_sub [some 1, some 2] _ rfl
  have hfe : FR w.heap.size [blk a5_l7] := hfr.pick [some 1] _ rfl
  exact ⟨a5_l7, c4, rfl, hev, hmr, hfe, ho4.sub hsu⟩
def job_relation_J9 (p1 : Int) (p2 : Int) (t19__s19_j9 : Bool) : Option Int :=
(if t19__s19_j9 = true then
some 0
else
(if (decide (p2 < p1)) = true then
some 2
else
some 1))

def job_relation_J4 (p1 : Int) (p2 : Int) (e10_j4_0 : Int) (e10_j4_1 : Int) (e10_j4_2 : Int) (e10_j4_3 : Int) (e12_j4_0 : Int) (e12_j4_1 : Int) (e12_j4_2 : Int) (e12_j4_3 : Int) : Option Int :=
(if (e10_j4_0 != e12_j4_0) = true then
job_relation_J9 p1 p2 true
else
job_relation_J9 p1 p2 (decide (e10_j4_1 ≥ e12_j4_1)))

def job_relation (p0_0 : List (Int × Int × Int × Int)) (p0_1 : Int) (p1 : Int) (p2 : Int) : Option Int :=
((idx p0_0 p1).bind fun x5 =>
((idx p0_0 p2).bind fun x7 =>
job_relation_J4 p1 p2 x5.1 x5.2.1 x5.2.2.1 x5.2.2.2 x7.1 x7.2.1 x7.2.2.1 x7.2.2.2))

theorem job_relation_w (a_p0_0 : Option Addr) (c_p0_0 : Nat) (p0_0 : List (Int × Int × Int × Int)) (p0_1 : Int) (p1 : Int) (p2 : Int) (r : Int) (w : World) (M : List Nat) (hms : MS w [M]) (hs_p0_0 : SlR (eProd (eInt .i64) (eProd (eInt .i64) (eProd (eInt .i64) (eInt .i64)))) w (fl [M]) a_p0_0 c_p0_0 p0_0) (h : job_relation p0_0 p0_1 p1 p2 = some r) : CallVC Try.prog 36 [.agg #[.slice a_p0_0 (p0_0).length c_p0_0, .int .i64 p0_1], .int .i64 p1, .int .i64 p2] w fun v w' => v = .int .i64 r ∧ Ev [] w w' := by
  refine calls_vc hmx Try.func36 (by kernel_rfl) rfl (rs := [.tmp 6]) rfl (by kernel_rfl) (args := [.agg #[.slice a_p0_0 (p0_0).length c_p0_0, .int .i64 p0_1], .int .i64 p1, .int .i64 p2]) rfl ?_
  have hev : Ev [] w w := Ev.refl _ _
  have hfr : FR w.heap.size [] := FR.nil _
  refine c_seq (c_plain ?_)
  refine x_box (xv := .agg #[.slice a_p0_0 (p0_0).length c_p0_0, .int .i64 p0_1]) rfl rfl rfl (fun b2 w2 hq2 hb2 he2 hz2 => ?_)
  replace hb2 : w2.heap[b2]? = some (.cells #[.slice a_p0_0 (p0_0).length c_p0_0, .int .i64 p0_1] 24 (0, 0)) := hb2
  refine ⟨.inl rfl, ?_⟩
  have hst := Stp.box (ls := [M]) he2 hq2
  replace hs_p0_0 := hs_p0_0.step hst
  replace hms := hms.box he2 hq2 hb2
  replace hfr := hfr.box hev.size hq2
  replace hev := hev.ext he2
  refine x_pure 1 [(6, .int .i64 0)] _ _ _ (by kernel_rfl) ?_
  refine x_end rfl (k_then ?_)
  refine c_join (σ := Int × Int × Int × Int × Int × Int × Int × Int × Nat × Nat) (fun s => match s with | (e10_j4_0, e10_j4_1, e10_j4_2, e10_j4_3, e12_j4_0, e12_j4_1, e12_j4_2, e12_j4_3, b10_j4, b12_j4) => [(1, .int .i64 p1), (2, .int .i64 p2), (7, .pointer (some ⟨b10_j4, 0, none⟩)), (8, .pointer (some ⟨b12_j4, 0, none⟩))]) (fun s w' => match s with | (e10_j4_0, e10_j4_1, e10_j4_2, e10_j4_3, e12_j4_0, e12_j4_1, e12_j4_2, e12_j4_3, b10_j4, b12_j4) => job_relation_J4 p1 p2 e10_j4_0 e10_j4_1 e10_j4_2 e10_j4_3 e12_j4_0 e12_j4_1 e12_j4_2 e12_j4_3 = some r ∧ Ev [] w w' ∧ MS w' [[b10_j4], [b12_j4], M] ∧ FR w.heap.size [[b10_j4], [b12_j4]] ∧ w'.heap[b10_j4]? = some (.cells #[.int .i64 e10_j4_0, .int .i64 e10_j4_1, .int .i64 e10_j4_2, .int .i64 e10_j4_3] 26 (0, 0)) ∧ w'.heap[b12_j4]? = some (.cells #[.int .i64 e12_j4_0, .int .i64 e12_j4_1, .int .i64 e12_j4_2, .int .i64 e12_j4_3] 26 (0, 0))) ?_ ?_
  · refine c_drawnp (newmo (w2).drew) [(0, false), (1, false), (2, false), (3, false), (4, false), (5, false), (6, false), (7, false), (8, false), (9, false)] (.alt 10 false (opsThen [(11, false), (12, false), (13, true)] .stop) (.alt 11 false (opsThen [(10, false), (12, false), (13, true)] .stop) .none_)) _ (by kernel_rfl) rfl ?_
    have hst := Stp.ext (ls := [[b2], M]) (Ev.drew w2)
    replace hs_p0_0 := hs_p0_0.step hst
    replace hb2 := (Ev.drew w2).box hb2 nn
    replace hms := hms.ev (Ev.drew w2)
    replace hev := hev.ext (Ev.drew w2)
    have hnz : ((w2).drew).heap.size = ((w2).drew).heap.size + 0 := rfl
    refine x_fieldAddr (xv := .pointer (some ⟨b2, 0, none⟩)) (.pointer (some ⟨b2, 0, none⟩)) rfl rfl rfl (reads_field tfld24_0 _ _) ?_
    refine x_load (xv := .pointer (some ⟨b2, 0, none⟩)) (.slice a_p0_0 (p0_0).length c_p0_0) rfl rfl rfl (reads_box tcell22 hb2 ((newmo_out (hms.ltat 0 rfl)) _ (List.mem_singleton.2 rfl)) 0 _ rfl) ?_
    refine x_pure 1 [(11, .int .i64 p1)] _ _ _ (by kernel_rfl) ?_
    obtain ⟨x5, hx5, h⟩ := bind_some h
    obtain ⟨ad5, cs5, hr5, hc5, hR⟩ := reads_index (Mo := (newmo (w2).drew)) tsl22 hs_p0_0 hx5
    obtain ⟨_, _, rfl, rfl, ⟨_, _, rfl, rfl, ⟨_, _, rfl, rfl, rfl⟩⟩⟩ := hR
    refine x_indexAddr (xv := .slice a_p0_0 (p0_0).length c_p0_0) (yv := .int .i64 p1) (.pointer (some ad5)) rfl rfl rfl rfl hr5 ?_
    refine x_load (xv := .pointer (some ad5)) (.agg #[.int .i64 x5.1, .int .i64 x5.2.1, .int .i64 x5.2.2.1, .int .i64 x5.2.2.2]) rfl rfl rfl (reads_agg tagg26 (CellsAt.newer hc5) (fun b hb => hb)) ?_
    refine x_fieldAddr (xv := .pointer (some ⟨b2, 0, none⟩)) (.pointer (some ⟨b2, 0, none⟩)) rfl rfl rfl (reads_field tfld24_0 _ _) ?_
    refine x_load (xv := .pointer (some ⟨b2, 0, none⟩)) (.slice a_p0_0 (p0_0).length c_p0_0) rfl rfl rfl (reads_box tcell22 hb2 ((newmo_out (hms.ltat 0 rfl)) _ (List.mem_singleton.2 rfl)) 0 _ rfl) ?_
    refine x_pure 1 [(16, .int .i64 p2)] _ _ _ (by kernel_rfl) ?_
    obtain ⟨x7, hx7, h⟩ := bind_some h
    obtain ⟨ad7, cs7, hr7, hc7, hR⟩ := reads_index (Mo := (newmo (w2).drew)) tsl22 hs_p0_0 hx7
    obtain ⟨_, _, rfl, rfl, ⟨_, _, rfl, rfl, ⟨_, _, rfl, rfl, rfl⟩⟩⟩ := hR
    refine x_indexAddr (xv := .slice a_p0_0 (p0_0).length c_p0_0) (yv := .int .i64 p2) (.pointer (some ad7)) rfl rfl rfl rfl hr7 ?_
    refine x_load (xv := .pointer (some ad7)) (.agg #[.int .i64 x7.1, .int .i64 x7.2.1, .int .i64 x7.2.2.1, .int .i64 x7.2.2.2]) rfl rfl rfl (reads_agg tagg26 (CellsAt.newer hc7) (fun b hb => hb)) ?_
    refine x_end rfl ?_
    refine t_alt _ rfl ?_ ?_
    · refine x_alloc (z := .agg #[.int .i64 0, .int .i64 0, .int .i64 0, .int .i64 0]) rfl rfl (by kernel_rfl) (fun b9 w9 hq9 hb9 he9 hz9 => ?_)
      replace hb9 : w9.heap[b9]? = some (.cells #[.int .i64 0, .int .i64 0, .int .i64 0, .int .i64 0] 26 (0, 0)) := hb9
      refine ⟨.inr (he9.nil), ?_⟩
      have hns9 : w9.heap.size = b9 + 1 := hz9
      have hnb9 : b9 = ((w2).drew).heap.size + 0 := by omega
      replace hnz : w9.heap.size = ((w2).drew).heap.size + 1 := by omega
      have hst := Stp.box (ls := [[b2], M]) he9 hq9
      replace hs_p0_0 := hs_p0_0.step hst
      replace hb2 := he9.box hb2 nn
      replace hc5 := hc5.step hst
      replace hc7 := hc7.step hst
      replace hms := hms.box he9 hq9 hb9
      replace hfr := hfr.box hev.size hq9
      replace hev := hev.ext he9
      refine x_alloc (z := .agg #[.int .i64 0, .int .i64 0, .int .i64 0, .int .i64 0]) rfl rfl (by kernel_rfl) (fun b11 w11 hq11 hb11 he11 hz11 => ?_)
      replace hb11 : w11.heap[b11]? = some (.cells #[.int .i64 0, .int .i64 0, .int .i64 0, .int .i64 0] 26 (0, 0)) := hb11
      refine ⟨.inr (he11.nil), ?_⟩
      have hns11 : w11.heap.size = b11 + 1 := hz11
      have hnb11 : b11 = ((w2).drew).heap.size + 1 := by omega
      replace hnz : w11.heap.size = ((w2).drew).heap.size + 2 := by omega
      have hst := Stp.box (ls := [[b9], [b2], M]) he11 hq11
      replace hs_p0_0 := hs_p0_0.step hst
      replace hb2 := he11.box hb2 nn
      replace hc5 := hc5.step hst
      replace hc7 := hc7.step hst
      replace hb9 := he11.box hb9 nn
      replace hms := hms.box he11 hq11 hb11
      replace hfr := hfr.box hev.size hq11
      replace hev := hev.ext he11
      obtain ⟨w13, hr13, hb13, he13⟩ := store_boxagg 0 [.int .i64 x5.1, .int .i64 x5.2.1, .int .i64 x5.2.2.1, .int .i64 x5.2.2.2] #[.int .i64 x5.1, .int .i64 x5.2.1, .int .i64 x5.2.2.1, .int .i64 x5.2.2.2] tagg26 hb9 rfl rfl rfl
      refine x_store w13 (xv := .pointer (some ⟨b9, 0, none⟩)) (yv := .agg #[.int .i64 x5.1, .int .i64 x5.2.1, .int .i64 x5.2.2.1, .int .i64 x5.2.2.2]) rfl rfl rfl rfl hr13 ?_
      refine ⟨.inr (he13.sub (fun x hx => by simp only [List.mem_singleton] at hx; subst hx; exact newmo_mem hnb9 rfl)), ?_⟩
      have hst := Stp.ev' (ls := [[b11], [b9], [b2], M]) he13 (mem_flat 1 rfl)
      replace hs_p0_0 := hs_p0_0.step hst
      replace hb2 := he13.box hb2 (hms.apart 2 1 rfl rfl rfl _ (List.mem_singleton.2 rfl))
      replace hc5 := hc5.step hst
      replace hc7 := hc7.step hst
      replace hb11 := he13.box hb11 (hms.apart 0 1 rfl rfl rfl _ (List.mem_singleton.2 rfl))
      replace hms := hms.ev he13
      replace hev := hev.then he13 (fun b hb => .inr (hfr.at 1 rfl b hb))
      replace hb9 := hb13
      obtain ⟨w14, hr14, hb14, he14⟩ := store_boxagg 0 [.int .i64 x7.1, .int .i64 x7.2.1, .int .i64 x7.2.2.1, .int .i64 x7.2.2.2] #[.int .i64 x7.1, .int .i64 x7.2.1, .int .i64 x7.2.2.1, .int .i64 x7.2.2.2] tagg26 hb11 rfl rfl rfl
      refine x_store w14 (xv := .pointer (some ⟨b11, 0, none⟩)) (yv := .agg #[.int .i64 x7.1, .int .i64 x7.2.1, .int .i64 x7.2.2.1, .int .i64 x7.2.2.2]) rfl rfl rfl rfl hr14 ?_
      refine ⟨.inl rfl, ?_⟩
      have hst := Stp.ev' (ls := [[b11], [b9], [b2], M]) he14 (mem_flat 0 rfl)
      replace hs_p0_0 := hs_p0_0.step hst
      replace hb2 := he14.box hb2 (hms.apart 2 0 rfl rfl rfl _ (List.mem_singleton.2 rfl))
      replace hc5 := hc5.step hst
      replace hc7 := hc7.step hst
      replace hb9 := he14.box hb9 (hms.apart 1 0 rfl rfl rfl _ (List.mem_singleton.2 rfl))
      replace hms := hms.ev he14
      replace hev := hev.then he14 (fun b hb => .inr (hfr.at 0 rfl b hb))
      replace hb11 := hb14
      refine x_end rfl ?_
      refine t_stop ?_
      have hpk : MS w14 [[b9], [b11], M] := hms.pick [some 1, some 0, some 3] _ rfl
      have hsu : ∀ x ∈ fl [[b9], [b11], M], x ∈ fl [[b11], [b9], [b2], M] := pick_sub [some 1, some 0, some 3] _ rfl
      replace hms := hpk
      replace hfr : FR w.heap.size [[b9], [b11]] := hfr.pick [some 1, some 0] _ rfl
      clear hpk hsu
      exact k_then ⟨(x5.1, x5.2.1, x5.2.2.1, x5.2.2.2, x7.1, x7.2.1, x7.2.2.1, x7.2.2.2, b9, b11), ⟨rfl, rfl, rfl, rfl, trivial⟩, h, hev, hms, hfr, hb9, hb11⟩
    refine t_alt _ rfl ?_ ?_
    · refine x_alloc (z := .agg #[.int .i64 0, .int .i64 0, .int .i64 0, .int .i64 0]) rfl rfl (by kernel_rfl) (fun b9 w9 hq9 hb9 he9 hz9 => ?_)
      replace hb9 : w9.heap[b9]? = some (.cells #[.int .i64 0, .int .i64 0, .int .i64 0, .int .i64 0] 26 (0, 0)) := hb9
      refine ⟨.inr (he9.nil), ?_⟩
      have hns9 : w9.heap.size = b9 + 1 := hz9
      have hnb9 : b9 = ((w2).drew).heap.size + 0 := by omega
      replace hnz : w9.heap.size = ((w2).drew).heap.size + 1 := by omega
      have hst := Stp.box (ls := [[b2], M]) he9 hq9
      replace hs_p0_0 := hs_p0_0.step hst
      replace hb2 := he9.box hb2 nn
      replace hc5 := hc5.step hst
      replace hc7 := hc7.step hst
      replace hms := hms.box he9 hq9 hb9
      replace hfr := hfr.box hev.size hq9
      replace hev := hev.ext he9
      refine x_alloc (z := .agg #[.int .i64 0, .int .i64 0, .int .i64 0, .int .i64 0]) rfl rfl (by kernel_rfl) (fun b11 w11 hq11 hb11 he11 hz11 => ?_)
      replace hb11 : w11.heap[b11]? = some (.cells #[.int .i64 0, .int .i64 0, .int .i64 0, .int .i64 0] 26 (0, 0)) := hb11
      refine ⟨.inr (he11.nil), ?_⟩
      have hns11 : w11.heap.size = b11 + 1 := hz11
      have hnb11 : b11 = ((w2).drew).heap.size + 1 := by omega
      replace hnz : w11.heap.size = ((w2).drew).heap.size + 2 := by omega
      have hst := Stp.box (ls := [[b9], [b2], M]) he11 hq11
      replace hs_p0_0 := hs_p0_0.step hst
      replace hb2 := he11.box hb2 nn
      replace hc5 := hc5.step hst
      replace hc7 := hc7.step hst
      replace hb9 := he11.box hb9 nn
      replace hms := hms.box he11 hq11 hb11
      replace hfr := hfr.box hev.size hq11
      replace hev := hev.ext he11
      obtain ⟨w13, hr13, hb13, he13⟩ := store_boxagg 0 [.int .i64 x5.1, .int .i64 x5.2.1, .int .i64 x5.2.2.1, .int .i64 x5.2.2.2] #[.int .i64 x5.1, .int .i64 x5.2.1, .int .i64 x5.2.2.1, .int .i64 x5.2.2.2] tagg26 hb11 rfl rfl rfl
      refine x_store w13 (xv := .pointer (some ⟨b11, 0, none⟩)) (yv := .agg #[.int .i64 x5.1, .int .i64 x5.2.1, .int .i64 x5.2.2.1, .int .i64 x5.2.2.2]) rfl rfl rfl rfl hr13 ?_
      refine ⟨.inr (he13.sub (fun x hx => by simp only [List.mem_singleton] at hx; subst hx; exact newmo_mem hnb11 rfl)), ?_⟩
      have hst := Stp.ev' (ls := [[b11], [b9], [b2], M]) he13 (mem_flat 0 rfl)
      replace hs_p0_0 := hs_p0_0.step hst
      replace hb2 := he13.box hb2 (hms.apart 2 0 rfl rfl rfl _ (List.mem_singleton.2 rfl))
      replace hc5 := hc5.step hst
      replace hc7 := hc7.step hst
      replace hb9 := he13.box hb9 (hms.apart 1 0 rfl rfl rfl _ (List.mem_singleton.2 rfl))
      replace hms := hms.ev he13
      replace hev := hev.then he13 (fun b hb => .inr (hfr.at 0 rfl b hb))
      replace hb11 := hb13
      obtain ⟨w14, hr14, hb14, he14⟩ := store_boxagg 0 [.int .i64 x7.1, .int .i64 x7.2.1, .int .i64 x7.2.2.1, .int .i64 x7.2.2.2] #[.int .i64 x7.1, .int .i64 x7.2.1, .int .i64 x7.2.2.1, .int .i64 x7.2.2.2] tagg26 hb9 rfl rfl rfl
      refine x_store w14 (xv := .pointer (some ⟨b9, 0, none⟩)) (yv := .agg #[.int .i64 x7.1, .int .i64 x7.2.1, .int .i64 x7.2.2.1, .int .i64 x7.2.2.2]) rfl rfl rfl rfl hr14 ?_
      refine ⟨.inl rfl, ?_⟩
      have hst := Stp.ev' (ls := [[b11], [b9], [b2], M]) he14 (mem_flat 1 rfl)
      replace hs_p0_0 := hs_p0_0.step hst
      replace hb2 := he14.box hb2 (hms.apart 2 1 rfl rfl rfl _ (List.mem_singleton.2 rfl))
      replace hc5 := hc5.step hst
      replace hc7 := hc7.step hst
      replace hb11 := he14.box hb11 (hms.apart 0 1 rfl rfl rfl _ (List.mem_singleton.2 rfl))
      replace hms := hms.ev he14
      replace hev := hev.then he14 (fun b hb => .inr (hfr.at 1 rfl b hb))
      replace hb9 := hb14
      refine x_end rfl ?_
      refine t_stop ?_
      have hpk : MS w14 [[b11], [b9], M] := hms.pick [some 0, some 1, some 3] _ rfl
      have hsu : ∀ x ∈ fl [[b11], [b9], M], x ∈ fl [[b11], [b9], [b2], M] := pick_sub [some 0, some 1, some 3] _ rfl
      replace hms := hpk
      replace hfr : FR w.heap.size [[b11], [b9]] := hfr.pick [some 0, some 1] _ rfl
      clear hpk hsu
      exact k_then ⟨(x5.1, x5.2.1, x5.2.2.1, x5.2.2.2, x7.1, x7.2.1, x7.2.2.1, x7.2.2.2, b11, b9), ⟨rfl, rfl, rfl, rfl, trivial⟩, h, hev, hms, hfr, hb11, hb9⟩
    exact t_none
  rintro ⟨e10_j4_0, e10_j4_1, e10_j4_2, e10_j4_3, e12_j4_0, e12_j4_1, e12_j4_2, e12_j4_3, b10_j4, b12_j4⟩ J wj4 ⟨h, hev, hms, hfr, hb10_j4, hb12_j4⟩
  refine c_seq ?_
  refine c_block ?_
  refine c_join (σ := Bool) (fun s => match s with | t19__s19_j9 => [(1, .int .i64 p1), (2, .int .i64 p2), (19, .bool t19__s19_j9)]) (fun s w' => match s with | t19__s19_j9 => job_relation_J9 p1 p2 t19__s19_j9 = some r ∧ Ev [] w w' ∧ MS w' [M] ∧ FR w.heap.size []) ?_ ?_
  · refine c_plain ?_
    refine x_fieldAddr (xv := .pointer (some ⟨b10_j4, 0, none⟩)) (.pointer (some ⟨b10_j4, 0, none⟩)) rfl rfl rfl (reads_field tfld26_0 _ _) ?_
    refine x_load (xv := .pointer (some ⟨b10_j4, 0, none⟩)) (.int .i64 e10_j4_0) rfl rfl rfl (reads_box tcell3 hb10_j4 nn 0 _ rfl) ?_
    refine x_fieldAddr (xv := .pointer (some ⟨b12_j4, 0, none⟩)) (.pointer (some ⟨b12_j4, 0, none⟩)) rfl rfl rfl (reads_field tfld26_0 _ _) ?_
    refine x_load (xv := .pointer (some ⟨b12_j4, 0, none⟩)) (.int .i64 e12_j4_0) rfl rfl rfl (reads_box tcell3 hb12_j4 nn 0 _ rfl) ?_
    refine x_pure 2 [(24, .bool (e10_j4_0 != e12_j4_0)), (25, .bool (e10_j4_0 != e12_j4_0))] _ _ _ (by kernel_rfl) ?_
    refine x_split 25 (e10_j4_0 != e12_j4_0) rfl (fun hb => ?_) (fun hb => ?_)
    · replace h := ite_t hb h
      refine x_pure 7 [(26, undef), (27, undef), (28, undef), (29, undef), (30, undef), (31, .bool true), (19, .bool true)] _ _ _ (by kernel_rfl) ?_
      refine x_end rfl ?_
      have hpk : MS wj4 [M] := hms.pick [some 2] _ rfl
      have hsu : ∀ x ∈ fl [M], x ∈ fl [[b10_j4], [b12_j4], M] := pick_sub [some 2] _ rfl
      replace hms := hpk
      replace hfr : FR w.heap.size [] := hfr.pick [] _ rfl
      clear hpk hsu
      exact k_then ⟨true, ⟨rfl, rfl, rfl, trivial⟩, h, hev, hms, hfr⟩
    replace h := ite_f hb h
    refine x_fieldAddr (xv := .pointer (some ⟨b10_j4, 0, none⟩)) (.pointer (some ⟨b10_j4, 1, none⟩)) rfl rfl rfl (reads_field tfld26_1 _ _) ?_
    refine x_load (xv := .pointer (some ⟨b10_j4, 1, none⟩)) (.int .i64 e10_j4_1) rfl rfl rfl (reads_box tcell3 hb10_j4 nn 1 _ rfl) ?_
    refine x_fieldAddr (xv := .pointer (some ⟨b12_j4, 0, none⟩)) (.pointer (some ⟨b12_j4, 1, none⟩)) rfl rfl rfl (reads_field tfld26_1 _ _) ?_
    refine x_load (xv := .pointer (some ⟨b12_j4, 1, none⟩)) (.int .i64 e12_j4_1) rfl rfl rfl (reads_box tcell3 hb12_j4 nn 1 _ rfl) ?_
    refine x_pure 3 [(30, .bool (decide (e10_j4_1 ≥ e12_j4_1))), (31, .bool (decide (e10_j4_1 ≥ e12_j4_1))), (19, .bool (decide (e10_j4_1 ≥ e12_j4_1)))] _ _ _ (by kernel_rfl) ?_
    refine x_end rfl ?_
    have hpk : MS wj4 [M] := hms.pick [some 2] _ rfl
    have hsu : ∀ x ∈ fl [M], x ∈ fl [[b10_j4], [b12_j4], M] := pick_sub [some 2] _ rfl
    replace hms := hpk
    replace hfr : FR w.heap.size [] := hfr.pick [] _ rfl
    clear hpk hsu
    exact k_then ⟨decide (e10_j4_1 ≥ e12_j4_1), ⟨rfl, rfl, rfl, trivial⟩, h, hev, hms, hfr⟩
  rintro t19__s19_j9 J wj9 ⟨h, hev, hms, hfr⟩
  refine c_cond t19__s19_j9 rfl (fun hb => ?_) (fun hb => ?_)
  · replace h := ite_t hb h
    refine c_seq (c_plain ?_)
    refine x_pure 1 [(6, .int .i64 0)] _ _ _ (by kernel_rfl) ?_
    refine x_end rfl (k_then ?_)
    refine c_norm [(6, .int .i64 0)] ⟨rfl, trivial⟩ (fun J => ?_)
    refine c_ret ?_
    refine k_block_ret ?_
    refine k_then_ret ?_
    refine r_ret (r_vals [.int .i64 0] ⟨rfl, trivial⟩ ?_)
    have hx := some_inj h
    subst hx
    have hmr : MS wj9 [M] := hms.pick [some 0] _ rfl
    have hsu : ∀ x ∈ fl [M], x ∈ fl [M] := pick_sub [some 0] _ rfl
    exact ⟨rfl, hev⟩
  replace h := ite_f hb h
  refine c_seq (c_plain ?_)
  refine x_pure 4 [(33, .int .i64 p2), (34, .int .i64 p1), (35, .bool (decide (p2 < p1))), (32, .bool (decide (p2 < p1)))] _ _ _ (by kernel_rfl) ?_
  refine x_end rfl (k_then ?_)
  refine c_norm [(32, .bool (decide (p2 < p1)))] ⟨rfl, trivial⟩ (fun J => ?_)
  refine c_cond (decide (p2 < p1)) rfl (fun hb => ?_) (fun hb => ?_)
  · replace h := ite_t hb h
    refine c_seq (c_plain ?_)
    refine x_pure 1 [(6, .int .i64 2)] _ _ _ (by kernel_rfl) ?_
    refine x_end rfl (k_then ?_)
    refine c_ret ?_
    refine k_block_ret ?_
    refine k_then_ret ?_
    refine r_ret (r_vals [.int .i64 2] ⟨rfl, trivial⟩ ?_)
    have hx := some_inj h
    subst hx
    have hmr : MS wj9 [M] := hms.pick [some 0] _ rfl
    have hsu : ∀ x ∈ fl [M], x ∈ fl [M] := pick_sub [some 0] _ rfl
    exact ⟨rfl, hev⟩
  replace h := ite_f hb h
  refine c_skip ?_
  refine k_block ?_
  refine k_then ?_
  refine c_seq (c_plain ?_)
  refine x_pure 1 [(6, .int .i64 1)] _ _ _ (by kernel_rfl) ?_
  refine x_end rfl (k_then ?_)
  refine c_ret ?_
  refine r_ret (r_vals [.int .i64 1] ⟨rfl, trivial⟩ ?_)
  have hx := some_inj h
  subst hx
  have hmr : MS wj9 [M] := hms.pick [some 0] _ rfl
  have hsu : ∀ x ∈ fl [M], x ∈ fl [M] := pick_sub [some 0] _ rfl
  exact ⟨rfl, hev⟩
def job_levels_L13 (p0_0 : List (Int × Int × Int × Int)) (p0_1 : Int) (x11 : Int) (s : (List Int) × Int) : Option (Step ((List Int) × Int) (List Int)) :=
match s with
| (d5_l13, t22__s22_l13) =>
(if (decide (t22__s22_l13 < ((p0_0).length : Int))) = true then
((job_relation p0_0 p0_1 t22__s22_l13 x11).bind fun x15 =>
(if (decide (x15 > 0)) = true then
((idx d5_l13 x11).bind fun x17 =>
((idx d5_l13 t22__s22_l13).bind fun x19 =>
((idx d5_l13 x11).bind fun x21 =>
some (.next ((d5_l13.set (Int.toNat x11) (if (IntKind.i64.wrap ((IntKind.i64.wrap (x19 + x15)) - 1)) > x17 then (IntKind.i64.wrap ((IntKind.i64.wrap (x19 + x15)) - 1)) else x17)), IntKind.i64.wrap (t22__s22_l13 + 1))))))
else
some (.next (d5_l13, IntKind.i64.wrap (t22__s22_l13 + 1)))))
else
some (.done d5_l13))

def job_levels_L9 (p0_0 : List (Int × Int × Int × Int)) (p0_1 : Int) (x6 : (List Int)) (s : (List Int) × Int) : Option (Step ((List Int) × Int) (List Int)) :=
match s with
| (d5_l9, t15__s15_l9) =>
(if (decide (t15__s15_l9 < ((x6).length : Int))) = true then
((idx x6 t15__s15_l9).bind fun x11 =>
((loop (job_levels_L13 p0_0 p0_1 x11) (d5_l9, 0)).bind fun d => match d with
| d5_x13 => some (.next (d5_x13, IntKind.i64.wrap (t15__s15_l9 + 1)))))
else
some (.done d5_l9))

def job_levels (p0_0 : List (Int × Int × Int × Int)) (p0_1 : Int) : Option (List Int) :=
(if (0 : Int) ≤ ((p0_0).length : Int) ∧ (((p0_0).length : Int) : Int) ≤ 4294967296 then
((job_byBlock p0_0 p0_1).bind fun x6 =>
((loop (job_levels_L9 p0_0 p0_1 x6) ((List.replicate (Int.toNat ((p0_0).length : Int)) 0 : List Int), 0)).bind fun d => match d with
| d5_x9 => some d5_x9))
else none)

theorem job_levels_w (a_p0_0 : Option Addr) (c_p0_0 : Nat) (p0_0 : List (Int × Int × Int × Int)) (p0_1 : Int) (r : (List Int)) (w : World) (M : List Nat) (hms : MS w [M]) (hs_p0_0 : SlR (eProd (eInt .i64) (eProd (eInt .i64) (eProd (eInt .i64) (eInt .i64)))) w (fl [M]) a_p0_0 c_p0_0 p0_0) (h : job_levels p0_0 p0_1 = some r) : CallVC Try.prog 25 [.agg #[.slice a_p0_0 (p0_0).length c_p0_0, .int .i64 p0_1]] w fun v w' => ∃ (a0' : Option Addr), ∃ (c0' : Nat), v = .slice a0' (r).length c0' ∧ Ev [] w w' ∧ MS w' [blk a0', M] ∧ FR w.heap.size [blk a0'] ∧ OwnS (eInt .i64) 3 w' (fl [blk a0', M]) a0' c0' r := by
  refine calls_vc hmx Try.func25 (by kernel_rfl) rfl (rs := [.tmp 2]) rfl (by kernel_rfl) (args := [.agg #[.slice a_p0_0 (p0_0).length c_p0_0, .int .i64 p0_1]]) rfl ?_
  have hev : Ev [] w w := Ev.refl _ _
  have hfr : FR w.heap.size [] := FR.nil _
  refine c_seq (c_plain ?_)
  refine x_box (xv := .agg #[.slice a_p0_0 (p0_0).length c_p0_0, .int .i64 p0_1]) rfl rfl rfl (fun b2 w2 hq2 hb2 he2 hz2 => ?_)
  replace hb2 : w2.heap[b2]? = some (.cells #[.slice a_p0_0 (p0_0).length c_p0_0, .int .i64 p0_1] 24 (0, 0)) := hb2
  refine ⟨.inl rfl, ?_⟩
  have hst := Stp.box (ls := [M]) he2 hq2
  replace hs_p0_0 := hs_p0_0.step hst
  replace hms := hms.box he2 hq2 hb2
  replace hfr := hfr.box hev.size hq2
  replace hev := hev.ext he2
  refine x_pure 1 [(2, .slice none 0 0)] _ _ _ (by kernel_rfl) ?_
  refine x_end rfl (k_then ?_)
  refine c_seq (c_plain ?_)
  refine x_fieldAddr (xv := .pointer (some ⟨b2, 0, none⟩)) (.pointer (some ⟨b2, 0, none⟩)) rfl rfl rfl (reads_field tfld24_0 _ _) ?_
  refine x_load (xv := .pointer (some ⟨b2, 0, none⟩)) (.slice a_p0_0 (p0_0).length c_p0_0) rfl rfl rfl (reads_box tcell22 hb2 nn 0 _ rfl) ?_
  refine x_len (vs := [.slice a_p0_0 (p0_0).length c_p0_0]) (.int .i64 ((p0_0).length : Int)) rfl rfl rfl (reads_len tsl22 _ _ _ _ _) ?_
  have hg := guard_l h
  replace h := guard_r h
  obtain ⟨a4, c4, w4, hr4, he4, hn4, hw4⟩ := own_make (e := (eInt .i64)) tel27 w2 ((p0_0).length : Int) hg.1 hg.2 0 (fun _ _ => rfl)
  refine x_makeSlice _ w4 (xv := .int .i64 ((p0_0).length : Int)) (yv := .int .i64 ((p0_0).length : Int)) rfl rfl rfl rfl hr4 ?_
  refine ⟨.inl rfl, ?_⟩
  have hst := Stp.push (ls := [[b2], M]) (l := blk a4) he4 (fun _ h => by cases h) (fun b hb => (hn4 b hb).1)
  replace hs_p0_0 := hs_p0_0.step hst
  replace hb2 := he4.box hb2 nn
  replace hms := hms.push he4 hn4
  replace hfr := hfr.push (fun b hb => Nat.le_trans hev.size (hn4 b hb).1)
  replace hev := hev.ext he4
  have ho4 := hw4 (fl [blk a4, [b2], M])
  clear hw4
  refine x_pure 1 [(3, .slice a4 ((List.replicate (Int.toNat ((p0_0).length : Int)) 0 : List Int)).length c4)] _ _ _ (by kernel_rfl) ?_
  refine x_end rfl (k_then ?_)
  refine c_seq ?_
  refine c_seq (c_plain ?_)
  refine x_load (xv := .pointer (some ⟨b2, 0, none⟩)) (.agg #[.slice a_p0_0 (p0_0).length c_p0_0, .int .i64 p0_1]) rfl rfl rfl (reads_boxagg 0 [.slice a_p0_0 (p0_0).length c_p0_0, .int .i64 p0_1] tagg24 hb2 nn rfl) ?_
  obtain ⟨x6, hx, h⟩ := bind_some h
  have hpk : MS w4 ([] ++ [blk a4, [b2], M]) := hms.pick [some 0, some 1, some 2] _ rfl
  have hsb0 : ∀ x ∈ fl ([] ++ [blk a4, [b2], M]), x ∈ fl [blk a4, [b2], M] := pick_sub [some 0, some 1, some 2] _ rfl
  have hsb : ∀ x ∈ fl ([] ++ [(fl [blk a4, [b2], M])]), x ∈ fl [blk a4, [b2], M] := fun x hx => hsb0 x (fl_unfold x hx)
  have hcall := job_byBlock_w a_p0_0 c_p0_0 p0_0 p0_1 _ w4 (fl [blk a4, [b2], M]) (MS.fold (P := []) hpk) (hs_p0_0.sub hsb) hx
  refine x_call 38 #[] #[] [.agg #[.slice a_p0_0 (p0_0).length c_p0_0, .int .i64 p0_1]] _ rfl rfl rfl rfl hcall ?_
  rintro v w7 ⟨a0_7, c0_7, rfl, he7, hmn7, hfn7, hf7_1⟩
  clear hcall hx
  refine ⟨.inl rfl, ?_⟩
  have hpk2 : MS w4 ([] ++ [blk a4, [b2], M]) := hms.pick [some 0, some 1, some 2] _ rfl
  have hsb2 : ∀ x ∈ fl ([] ++ [blk a4, [b2], M]), x ∈ fl [blk a4, [b2], M] := pick_sub [some 0, some 1, some 2] _ rfl
  have hst0 := Stp.call (LS := [blk a4, [b2], M]) (res := [blk a0_7]) (par := []) (R := [blk a4, [b2], M]) he7 (fun b hb => hsb2 b (fl_left' (P := []) b hb)) hfn7 (NP.init _ _) (fun x hx => hsb2 x (fl_right' (P := []) x hx))
  have hsn : ∀ x ∈ fl [blk a0_7, blk a4, [b2], M], x ∈ fl ([blk a0_7] ++ ([] ++ [blk a4, [b2], M])) := pick_sub [some 0, some 1, some 2, some 3] _ rfl
  have hst := hst0.res hsn
  replace hs_p0_0 := hs_p0_0.step hst
  replace hb2 := he7.box hb2 ((MS.outs (P := []) hpk2 1 rfl) _ (List.mem_singleton.2 rfl))
  replace ho4 := ho4.step hst he7 (MS.outs (P := []) hpk2 0 rfl)
  replace hms : MS w7 [blk a0_7, blk a4, [b2], M] := (MS.call (P := []) (R := [blk a4, [b2], M]) (res := [blk a0_7]) (par := []) hpk2 he7 hmn7 hfn7 (NP.init _ _)).pick [some 0, some 1, some 2, some 3] _ rfl
  have hfr2 : FR w.heap.size [blk a0_7, blk a4, [b2]] := (FR.cons (fun b hb => Nat.le_trans hev.size (hfn7.at 0 rfl b hb)) (FR.cons (hfr.at 0 rfl) (FR.cons (hfr.at 1 rfl) (FR.nil _))))
  replace hev := hev.ext he7
  replace hfr := hfr2
  clear hfr2
  replace hf7_1 := OwnS.plain (M' := fl [blk a0_7, blk a4, [b2], M]) (plain_int _) hf7_1
  clear hpk hsb hsb0 hpk2 hsb2 hst0 hsn hst
  refine x_len (vs := [.slice a0_7 (x6).length c0_7]) (.int .i64 ((x6).length : Int)) rfl rfl rfl (reads_len tsl27 _ _ _ _ _) ?_
  refine x_pure 1 [(15, .int .i64 0)] _ _ _ (by kernel_rfl) ?_
  refine x_end rfl (k_then ?_)
  refine c_block ?_
  have hpk : MS w7 [[b2], blk a4, blk a0_7, M] := hms.pick [some 2, some 1, some 0, some 3] _ rfl
  have hsu : ∀ x ∈ fl [[b2], blk a4, blk a0_7, M], x ∈ fl [blk a0_7, blk a4, [b2], M] := pick_sub [some 2, some 1, some 0, some 3] _ rfl
  replace hs_p0_0 := hs_p0_0.sub hsu
  replace ho4 := ho4.sub hsu
  replace hf7_1 := hf7_1.sub hsu
  replace hms := hpk
  replace hfr : FR w.heap.size [[b2], blk a4, blk a0_7] := hfr.pick [some 2, some 1, some 0] _ rfl
  clear hpk hsu
  obtain ⟨d9, hd9, h9⟩ := bind_some h
  obtain ⟨m9, hd9⟩ := loop_some hd9
  refine c_loop (loop_rule hmx (σ := Nat × (List Int) × Int × Option Addr × Option Addr) (fun s => match s with | (_, d5_l9, t15__s15_l9, a5_l9, a8_l9) => [(1, .pointer (some ⟨b2, 0, none⟩)), (3, .slice a5_l9 (d5_l9).length c4), (13, .slice a8_l9 (x6).length c0_7), (14, .int .i64 ((x6).length : Int)), (15, .int .i64 t15__s15_l9)]) (fun s w' => match s with | (m, d5_l9, t15__s15_l9, a5_l9, a8_l9) => loopN (job_levels_L9 p0_0 p0_1 x6) m (d5_l9, t15__s15_l9) = some d9 ∧ Ev [] w w' ∧ MS w' [[b2], blk a5_l9, blk a8_l9, M] ∧ FR w.heap.size [[b2], blk a5_l9, blk a8_l9] ∧ SlR (eProd (eInt .i64) (eProd (eInt .i64) (eProd (eInt .i64) (eInt .i64)))) w' (fl [[b2], blk a5_l9, blk a8_l9, M]) a_p0_0 c_p0_0 p0_0 ∧ w'.heap[b2]? = some (.cells #[.slice a_p0_0 (p0_0).length c_p0_0, .int .i64 p0_1] 24 (0, 0)) ∧ OwnS (eInt .i64) 3 w' (fl [[b2], blk a5_l9, blk a8_l9, M]) a5_l9 c4 d5_l9 ∧ OwnS (eInt .i64) 3 w' (fl [[b2], blk a5_l9, blk a8_l9, M]) a8_l9 c0_7 x6) (fun s => s.1) (m9, (List.replicate (Int.toNat ((p0_0).length : Int)) 0 : List Int), 0, a4, a0_7) ⟨rfl, rfl, rfl, rfl, rfl, trivial⟩ ⟨hd9, hev, hms, hfr, hs_p0_0, hb2, ho4, hf7_1⟩ ?_)
  rintro ⟨m9, d5_l9, t15__s15_l9, a5_l9, a8_l9⟩ J wl9 ⟨hn9, hev, hms, hfr, hs_p0_0, hb2, ho4, hf7_1⟩
  rcases m9 with _ | m9
  · exact (loopN_zero hn9).elim
  obtain ⟨t9, h, hn9⟩ := bind_some hn9
  refine c_seq (c_plain ?_)
  refine x_pure 1 [(16, .bool (decide (t15__s15_l9 < ((x6).length : Int))))] _ _ _ (by kernel_rfl) ?_
  refine x_end rfl (k_then ?_)
  refine c_norm [(1, .pointer (some ⟨b2, 0, none⟩)), (3, .slice a5_l9 (d5_l9).length c4), (13, .slice a8_l9 (x6).length c0_7), (14, .int .i64 ((x6).length : Int)), (15, .int .i64 t15__s15_l9), (16, .bool (decide (t15__s15_l9 < ((x6).length : Int))))] ⟨rfl, rfl, rfl, rfl, rfl, rfl, trivial⟩ (fun J => ?_)
  refine c_seq ?_
  refine c_cond (decide (t15__s15_l9 < ((x6).length : Int))) rfl (fun hb => ?_) (fun hb => ?_)
  · replace h := ite_t hb h
    refine c_skip ?_
    refine k_then ?_
    refine c_seq ?_
    refine c_block ?_
    refine c_seq (c_plain ?_)
    obtain ⟨x11, hx11, h⟩ := bind_some h
    obtain ⟨g11, cs11, ha, hr11, hc11, hR⟩ := own_index (Mo := []) tsl27 hf7_1 hx11
    subst ha
    obtain rfl := hR
    refine x_indexAddr (xv := .slice (some ⟨g11, 0, none⟩) (x6).length c0_7) (yv := .int .i64 t15__s15_l9) (.pointer (some ⟨g11, (Int.toNat t15__s15_l9) * (eInt .i64).n, none⟩)) rfl rfl rfl rfl hr11 ?_
    refine x_load (xv := .pointer (some ⟨g11, (Int.toNat t15__s15_l9) * (eInt .i64).n, none⟩)) (.int .i64 x11) rfl rfl rfl (reads_cell0 tcell3 hc11 (fun _ h => by cases h)) ?_
    refine x_pure 1 [(5, .int .i64 x11)] _ _ _ (by kernel_rfl) ?_
    refine x_end rfl (k_then ?_)
    refine c_seq (c_plain ?_)
    refine x_fieldAddr (xv := .pointer (some ⟨b2, 0, none⟩)) (.pointer (some ⟨b2, 0, none⟩)) rfl rfl rfl (reads_field tfld24_0 _ _) ?_
    refine x_load (xv := .pointer (some ⟨b2, 0, none⟩)) (.slice a_p0_0 (p0_0).length c_p0_0) rfl rfl rfl (reads_box tcell22 hb2 nn 0 _ rfl) ?_
    refine x_len (vs := [.slice a_p0_0 (p0_0).length c_p0_0]) (.int .i64 ((p0_0).length : Int)) rfl rfl rfl (reads_len tsl22 _ _ _ _ _) ?_
    refine x_pure 1 [(22, .int .i64 0)] _ _ _ (by kernel_rfl) ?_
    refine x_end rfl (k_then ?_)
    refine c_block ?_
    obtain ⟨d13, hd13, h13⟩ := bind_some h
    obtain ⟨m13, hd13⟩ := loop_some hd13
    refine c_loop (loop_rule hmx (σ := Nat × (List Int) × Int × Option Addr) (fun s => match s with | (_, d5_l13, t22__s22_l13, a5_l13) => [(1, .pointer (some ⟨b2, 0, none⟩)), (3, .slice a5_l13 (d5_l13).length c4), (5, .int .i64 x11), (13, .slice (some ⟨g11, 0, none⟩) (x6).length c0_7), (14, .int .i64 ((x6).length : Int)), (15, .int .i64 t15__s15_l9), (21, .int .i64 ((p0_0).length : Int)), (22, .int .i64 t22__s22_l13)]) (fun s w' => match s with | (m, d5_l13, t22__s22_l13, a5_l13) => loopN (job_levels_L13 p0_0 p0_1 x11) m (d5_l13, t22__s22_l13) = some d13 ∧ Ev [] w w' ∧ MS w' [[b2], blk a5_l13, blk (some ⟨g11, 0, none⟩), M] ∧ FR w.heap.size [[b2], blk a5_l13, blk (some ⟨g11, 0, none⟩)] ∧ SlR (eProd (eInt .i64) (eProd (eInt .i64) (eProd (eInt .i64) (eInt .i64)))) w' (fl [[b2], blk a5_l13, blk (some ⟨g11, 0, none⟩), M]) a_p0_0 c_p0_0 p0_0 ∧ w'.heap[b2]? = some (.cells #[.slice a_p0_0 (p0_0).length c_p0_0, .int .i64 p0_1] 24 (0, 0)) ∧ OwnS (eInt .i64) 3 w' (fl [[b2], blk a5_l13, blk (some ⟨g11, 0, none⟩), M]) a5_l13 c4 d5_l13 ∧ OwnS (eInt .i64) 3 w' (fl [[b2], blk a5_l13, blk (some ⟨g11, 0, none⟩), M]) (some ⟨g11, 0, none⟩) c0_7 x6) (fun s => s.1) (m13, d5_l9, 0, a5_l9) ⟨rfl, rfl, rfl, rfl, rfl, rfl, rfl, rfl, trivial⟩ ⟨hd13, hev, hms, hfr, hs_p0_0, hb2, ho4, hf7_1⟩ ?_)
    rintro ⟨m13, d5_l13, t22__s22_l13, a5_l13⟩ J wl13 ⟨hn13, hev, hms, hfr, hs_p0_0, hb2, ho4, hf7_1⟩
    rcases m13 with _ | m13
    · exact (loopN_zero hn13).elim
    obtain ⟨t13, h, hn13⟩ := bind_some hn13
    refine c_seq (c_plain ?_)
    refine x_pure 1 [(23, .bool (decide (t22__s22_l13 < ((p0_0).length : Int))))] _ _ _ (by kernel_rfl) ?_
    refine x_end rfl (k_then ?_)
    refine c_norm [(1, .pointer (some ⟨b2, 0, none⟩)), (3, .slice a5_l13 (d5_l13).length c4), (5, .int .i64 x11), (13, .slice (some ⟨g11, 0, none⟩) (x6).length c0_7), (14, .int .i64 ((x6).length : Int)), (15, .int .i64 t15__s15_l9), (21, .int .i64 ((p0_0).length : Int)), (22, .int .i64 t22__s22_l13), (23, .bool (decide (t22__s22_l13 < ((p0_0).length : Int))))] ⟨rfl, rfl, rfl, rfl, rfl, rfl, rfl, rfl, rfl, trivial⟩ (fun J => ?_)
    refine c_seq ?_
    refine c_cond (decide (t22__s22_l13 < ((p0_0).length : Int))) rfl (fun hb => ?_) (fun hb => ?_)
    · replace h := ite_t hb h
      refine c_skip ?_
      refine k_then ?_
      refine c_seq ?_
      refine c_block ?_
      refine c_seq (c_plain ?_)
      refine x_pure 2 [(24, .int .i64 t22__s22_l13), (6, .int .i64 t22__s22_l13)] _ _ _ (by kernel_rfl) ?_
      refine x_end rfl (k_then ?_)
      refine c_seq (c_plain ?_)
      refine x_load (xv := .pointer (some ⟨b2, 0, none⟩)) (.agg #[.slice a_p0_0 (p0_0).length c_p0_0, .int .i64 p0_1]) rfl rfl rfl (reads_boxagg 0 [.slice a_p0_0 (p0_0).length c_p0_0, .int .i64 p0_1] tagg24 hb2 nn rfl) ?_
      refine x_pure 2 [(26, .int .i64 t22__s22_l13), (27, .int .i64 x11)] _ _ _ (by kernel_rfl) ?_
      obtain ⟨x15, hx, h⟩ := bind_some h
      have hpk : MS wl13 ([] ++ [[b2], blk a5_l13, blk (some ⟨g11, 0, none⟩), M]) := hms.pick [some 0, some 1, some 2, some 3] _ rfl
      have hsb0 : ∀ x ∈ fl ([] ++ [[b2], blk a5_l13, blk (some ⟨g11, 0, none⟩), M]), x ∈ fl [[b2], blk a5_l13, blk (some ⟨g11, 0, none⟩), M] := pick_sub [some 0, some 1, some 2, some 3] _ rfl
      have hsb : ∀ x ∈ fl ([] ++ [(fl [[b2], blk a5_l13, blk (some ⟨g11, 0, none⟩), M])]), x ∈ fl [[b2], blk a5_l13, blk (some ⟨g11, 0, none⟩), M] := fun x hx => hsb0 x (fl_unfold x hx)
      have hcall := job_relation_w a_p0_0 c_p0_0 p0_0 p0_1 t22__s22_l13 x11 _ wl13 (fl [[b2], blk a5_l13, blk (some ⟨g11, 0, none⟩), M]) (MS.fold (P := []) hpk) (hs_p0_0.sub hsb) hx
      refine x_call 36 #[] #[] [.agg #[.slice a_p0_0 (p0_0).length c_p0_0, .int .i64 p0_1], .int .i64 t22__s22_l13, .int .i64 x11] _ rfl rfl rfl rfl hcall ?_
      rintro v w16 ⟨rfl, he16⟩
      clear hcall hx
      refine ⟨.inl rfl, ?_⟩
      have hst := Stp.ext (ls := [[b2], blk a5_l13, blk (some ⟨g11, 0, none⟩), M]) he16
      replace hb2 := he16.box hb2 nn
      replace hs_p0_0 := hs_p0_0.step hst
      replace ho4 := ho4.step hst he16 nn2
      replace hf7_1 := hf7_1.step hst he16 nn2
      replace hms := hms.ev he16
      replace hev := hev.ext he16
      clear hpk hsb hsb0
      refine x_pure 1 [(7, .int .i64 x15)] _ _ _ (by kernel_rfl) ?_
      refine x_end rfl (k_then ?_)
      refine c_seq (c_plain ?_)
      refine x_pure 2 [(29, .int .i64 x15), (30, .bool (decide (x15 > 0)))] _ _ _ (by kernel_rfl) ?_
      refine x_end rfl (k_then ?_)
      refine c_cond (decide (x15 > 0)) rfl (fun hb => ?_) (fun hb => ?_)
      · replace h := ite_t hb h
        refine c_drawn [] [(0, false), (1, false), (2, false), (3, false), (4, false), (5, false), (6, false), (7, false), (8, false), (9, false), (10, false), (11, false), (12, false), (13, false), (14, false), (15, true)] _ (by kernel_rfl) rfl ?_
        have hst := Stp.ext (ls := [[b2], blk a5_l13, blk (some ⟨g11, 0, none⟩), M]) (Ev.drew w16)
        replace hb2 := (Ev.drew w16).box hb2 nn
        replace hs_p0_0 := hs_p0_0.step hst
        replace ho4 := ho4.step hst (Ev.drew w16) nn2
        replace hf7_1 := hf7_1.step hst (Ev.drew w16) nn2
        replace hms := hms.ev (Ev.drew w16)
        replace hev := hev.ext (Ev.drew w16)
        refine x_pure 4 [(31, .slice a5_l13 (d5_l13).length c4), (32, .int .i64 x11), (33, .slice a5_l13 (d5_l13).length c4), (34, .int .i64 x11)] _ _ _ (by kernel_rfl) ?_
        obtain ⟨x17, hx17, h⟩ := bind_some h
        obtain ⟨g17, cs17, ha, hr17, hc17, hR⟩ := own_index (Mo := []) tsl27 ho4 hx17
        subst ha
        obtain rfl := hR
        refine x_indexAddr (xv := .slice (some ⟨g17, 0, none⟩) (d5_l13).length c4) (yv := .int .i64 x11) (.pointer (some ⟨g17, (Int.toNat x11) * (eInt .i64).n, none⟩)) rfl rfl rfl rfl hr17 ?_
        refine x_load (xv := .pointer (some ⟨g17, (Int.toNat x11) * (eInt .i64).n, none⟩)) (.int .i64 x17) rfl rfl rfl (reads_cell0 tcell3 hc17 (fun _ h => by cases h)) ?_
        refine x_pure 2 [(37, .slice (some ⟨g17, 0, none⟩) (d5_l13).length c4), (38, .int .i64 t22__s22_l13)] _ _ _ (by kernel_rfl) ?_
        obtain ⟨x19, hx19, h⟩ := bind_some h
        obtain ⟨g19, cs19, ha, hr19, hc19, hR⟩ := own_index (Mo := []) tsl27 ho4 hx19
        have hg : g17 = g19 := by cases ha; rfl
        subst hg
        obtain rfl := hR
        refine x_indexAddr (xv := .slice (some ⟨g17, 0, none⟩) (d5_l13).length c4) (yv := .int .i64 t22__s22_l13) (.pointer (some ⟨g17, (Int.toNat t22__s22_l13) * (eInt .i64).n, none⟩)) rfl rfl rfl rfl hr19 ?_
        refine x_load (xv := .pointer (some ⟨g17, (Int.toNat t22__s22_l13) * (eInt .i64).n, none⟩)) (.int .i64 x19) rfl rfl rfl (reads_cell0 tcell3 hc19 (fun _ h => by cases h)) ?_
        refine x_pure 3 [(41, .int .i64 x15), (42, .int .i64 (IntKind.i64.wrap (x19 + x15))), (43, .int .i64 (IntKind.i64.wrap ((IntKind.i64.wrap (x19 + x15)) - 1)))] _ _ _ (by kernel_rfl) ?_
        refine x_max (vs := [.int .i64 x17, .int .i64 (IntKind.i64.wrap ((IntKind.i64.wrap (x19 + x15)) - 1))]) (.int .i64 (if (IntKind.i64.wrap ((IntKind.i64.wrap (x19 + x15)) - 1)) > x17 then (IntKind.i64.wrap ((IntKind.i64.wrap (x19 + x15)) - 1)) else x17)) rfl rfl rfl (fun _ _ => rfl) ?_
        obtain ⟨x21, hx21, h⟩ := bind_some h
        obtain ⟨g21, cs21, ha, hr21, hc21, hR⟩ := own_index (Mo := []) tsl27 ho4 hx21
        have hg : g17 = g21 := by cases ha; rfl
        subst hg
        obtain rfl := hR
        refine x_indexAddr (xv := .slice (some ⟨g17, 0, none⟩) (d5_l13).length c4) (yv := .int .i64 x11) (.pointer (some ⟨g17, (Int.toNat x11) * (eInt .i64).n, none⟩)) rfl rfl rfl rfl hr21 ?_
        obtain ⟨w23, hr23, he23, ho23⟩ := own_store (y := if (IntKind.i64.wrap ((IntKind.i64.wrap (x19 + x15)) - 1)) > x17 then (IntKind.i64.wrap ((IntKind.i64.wrap (x19 + x15)) - 1)) else x17) 0 (.int .i64 (if (IntKind.i64.wrap ((IntKind.i64.wrap (x19 + x15)) - 1)) > x17 then (IntKind.i64.wrap ((IntKind.i64.wrap (x19 + x15)) - 1)) else x17)) tcell3 ho4 (mem_flat 1 rfl _ (List.mem_singleton.2 rfl)) hx21 rfl rfl (fun _ _ _ hR => set_int hR)
        refine x_store w23 (xv := .pointer (some ⟨g17, (Int.toNat x11) * (eInt .i64).n, none⟩)) (yv := .int .i64 (if (IntKind.i64.wrap ((IntKind.i64.wrap (x19 + x15)) - 1)) > x17 then (IntKind.i64.wrap ((IntKind.i64.wrap (x19 + x15)) - 1)) else x17)) rfl rfl rfl rfl hr23 ?_
        refine ⟨.inl rfl, ?_⟩
        have hst := Stp.ev' (ls := [[b2], blk (some ⟨g17, 0, none⟩), blk (some ⟨g11, 0, none⟩), M]) he23 (mem_flat 1 rfl)
        replace hb2 := he23.box hb2 (hms.apart 0 1 rfl rfl rfl _ (List.mem_singleton.2 rfl))
        replace hs_p0_0 := hs_p0_0.step hst
        replace hf7_1 := hf7_1.step hst he23 (hms.apart 2 1 rfl rfl rfl)
        replace hms := hms.ev he23
        replace hev := hev.then he23 (fun b hb => .inr (hfr.at 1 rfl b hb))
        replace ho4 := ho23
        have hsl : (Value.slice (some ⟨g17, 0, none⟩) (d5_l13).length c4) = (Value.slice (some ⟨g17, 0, none⟩) ((d5_l13.set (Int.toNat x11) (if (IntKind.i64.wrap ((IntKind.i64.wrap (x19 + x15)) - 1)) > x17 then (IntKind.i64.wrap ((IntKind.i64.wrap (x19 + x15)) - 1)) else x17))).length c4) := by first | (rw [List.length_set]; done) | simp only [List.length_set]
        try rw [hsl]
        clear hsl
        refine x_end rfl ?_
        refine k_block ?_
        refine k_then ?_
        refine c_norm [(1, .pointer (some ⟨b2, 0, none⟩)), (3, .slice (some ⟨g17, 0, none⟩) ((d5_l13.set (Int.toNat x11) (if (IntKind.i64.wrap ((IntKind.i64.wrap (x19 + x15)) - 1)) > x17 then (IntKind.i64.wrap ((IntKind.i64.wrap (x19 + x15)) - 1)) else x17))).length c4), (5, .int .i64 x11), (13, .slice (some ⟨g11, 0, none⟩) (x6).length c0_7), (14, .int .i64 ((x6).length : Int)), (15, .int .i64 t15__s15_l9), (21, .int .i64 ((p0_0).length : Int)), (22, .int .i64 t22__s22_l13)] ⟨rfl, rfl, rfl, rfl, rfl, rfl, rfl, rfl, trivial⟩ (fun J => ?_)
        refine c_plain ?_
        refine x_pure 2 [(46, .int .i64 (IntKind.i64.wrap (t22__s22_l13 + 1))), (22, .int .i64 (IntKind.i64.wrap (t22__s22_l13 + 1)))] _ _ _ (by kernel_rfl) ?_
        refine x_end rfl ?_
        have hx := some_inj h
        subst hx
        exact k_then ⟨(m13, (d5_l13.set (Int.toNat x11) (if (IntKind.i64.wrap ((IntKind.i64.wrap (x19 + x15)) - 1)) > x17 then (IntKind.i64.wrap ((IntKind.i64.wrap (x19 + x15)) - 1)) else x17)), IntKind.i64.wrap (t22__s22_l13 + 1), (some ⟨g17, 0, none⟩)), ⟨rfl, rfl, rfl, rfl, rfl, rfl, rfl, rfl, trivial⟩, ⟨hn13, hev, hms, hfr, hs_p0_0, hb2, ho4, hf7_1⟩, Nat.lt_succ_self _⟩
      replace h := ite_f hb h
      refine c_skip ?_
      refine k_block ?_
      refine k_then ?_
      refine c_plain ?_
      refine x_pure 2 [(46, .int .i64 (IntKind.i64.wrap (t22__s22_l13 + 1))), (22, .int .i64 (IntKind.i64.wrap (t22__s22_l13 + 1)))] _ _ _ (by kernel_rfl) ?_
      refine x_end rfl ?_
      have hx := some_inj h
      subst hx
      exact k_then ⟨(m13, d5_l13, IntKind.i64.wrap (t22__s22_l13 + 1), a5_l13), ⟨rfl, rfl, rfl, rfl, rfl, rfl, rfl, rfl, trivial⟩, ⟨hn13, hev, hms, hfr, hs_p0_0, hb2, ho4, hf7_1⟩, Nat.lt_succ_self _⟩
    replace h := ite_f hb h
    refine c_exit ?_
    refine k_then_exit ?_
    have hx := some_inj h
    subst hx
    have hy := some_inj hn13
    subst hy
    replace h := h13
    refine k_then_exit ?_
    refine k_block_in ?_
    refine k_block ?_
    refine k_then ?_
    refine c_norm [(1, .pointer (some ⟨b2, 0, none⟩)), (3, .slice a5_l13 (d5_l13).length c4), (13, .slice (some ⟨g11, 0, none⟩) (x6).length c0_7), (14, .int .i64 ((x6).length : Int)), (15, .int .i64 t15__s15_l9)] ⟨rfl, rfl, rfl, rfl, rfl, trivial⟩ (fun J => ?_)
    refine c_plain ?_
    refine x_pure 2 [(47, .int .i64 (IntKind.i64.wrap (t15__s15_l9 + 1))), (15, .int .i64 (IntKind.i64.wrap (t15__s15_l9 + 1)))] _ _ _ (by kernel_rfl) ?_
    refine x_end rfl ?_
    have hx := some_inj h
    subst hx
    exact k_then ⟨(m9, d5_l13, IntKind.i64.wrap (t15__s15_l9 + 1), a5_l13, (some ⟨g11, 0, none⟩)), ⟨rfl, rfl, rfl, rfl, rfl, trivial⟩, ⟨hn9, hev, hms, hfr, hs_p0_0, hb2, ho4, hf7_1⟩, Nat.lt_succ_self _⟩
  replace h := ite_f hb h
  refine c_exit ?_
  refine k_then_exit ?_
  have hx := some_inj h
  subst hx
  have hy := some_inj hn9
  subst hy
  replace h := h9
  refine k_then_exit ?_
  refine k_block_in ?_
  refine k_then ?_
  refine c_norm [(3, .slice a5_l9 (d5_l9).length c4)] ⟨rfl, trivial⟩ (fun J => ?_)
  refine c_seq (c_plain ?_)
  refine x_pure 2 [(48, .slice a5_l9 (d5_l9).length c4), (2, .slice a5_l9 (d5_l9).length c4)] _ _ _ (by kernel_rfl) ?_
  refine x_end rfl (k_then ?_)
  refine c_ret ?_
  refine r_ret (r_vals [.slice a5_l9 (d5_l9).length c4] ⟨rfl, trivial⟩ ?_)
  have hx := some_inj h
  subst hx
  have hmr : MS wl9 [blk a5_l9, M] := hms.pick [some 1, some 3] _ rfl
  have hsu : ∀ x ∈ fl [blk a5_l9, M], x ∈ fl [[b2], blk a5_l9, blk a8_l9, M] := pick_sub [some 1, some 3] _ rfl
  have hfe : FR w.heap.size [blk a5_l9] := hfr.pick [some 1] _ rfl
  exact ⟨a5_l9, c4, rfl, hev, hmr, hfe, ho4.sub hsu⟩
def job_Levels (p0_0 : List (Int × Int × Int × Int)) (p0_1 : Int) : Option ((List Int) × Int) :=
((job_Valid p0_0 p0_1).bind fun x4 =>
(if (x4 != 0) = true then
some ([], x4)
else
((job_levels p0_0 p0_1).bind fun x6 =>
some (x6, 0))))

theorem job_Levels_w (a_p0_0 : Option Addr) (c_p0_0 : Nat) (p0_0 : List (Int × Int × Int × Int)) (p0_1 : Int) (r : (List Int) × Int) (w : World) (M : List Nat) (hms : MS w [M]) (hs_p0_0 : SlR (eProd (eInt .i64) (eProd (eInt .i64) (eProd (eInt .i64) (eInt .i64)))) w (fl [M]) a_p0_0 c_p0_0 p0_0) (h : job_Levels p0_0 p0_1 = some r) : CallVC Try.prog 10 [.agg #[.slice a_p0_0 (p0_0).length c_p0_0, .int .i64 p0_1]] w fun v w' => ∃ (a0' : Option Addr), ∃ (c0' : Nat), v = .tuple #[.slice a0' (r.1).length c0', .int .i64 r.2] ∧ Ev [] w w' ∧ MS w' [blk a0', M] ∧ FR w.heap.size [blk a0'] ∧ OwnS (eInt .i64) 3 w' (fl [blk a0', M]) a0' c0' r.1 := by
  refine calls_vc hmx Try.func10 (by kernel_rfl) rfl (rs := [.tmp 2, .tmp 3]) rfl (by kernel_rfl) (args := [.agg #[.slice a_p0_0 (p0_0).length c_p0_0, .int .i64 p0_1]]) rfl ?_
  have hev : Ev [] w w := Ev.refl _ _
  have hfr : FR w.heap.size [] := FR.nil _
  refine c_seq (c_plain ?_)
  refine x_box (xv := .agg #[.slice a_p0_0 (p0_0).length c_p0_0, .int .i64 p0_1]) rfl rfl rfl (fun b2 w2 hq2 hb2 he2 hz2 => ?_)
  replace hb2 : w2.heap[b2]? = some (.cells #[.slice a_p0_0 (p0_0).length c_p0_0, .int .i64 p0_1] 24 (0, 0)) := hb2
  refine ⟨.inl rfl, ?_⟩
  have hst := Stp.box (ls := [M]) he2 hq2
  replace hs_p0_0 := hs_p0_0.step hst
  replace hms := hms.box he2 hq2 hb2
  replace hfr := hfr.box hev.size hq2
  replace hev := hev.ext he2
  refine x_pure 2 [(2, .slice none 0 0), (3, .int .i64 0)] _ _ _ (by kernel_rfl) ?_
  refine x_end rfl (k_then ?_)
  refine c_seq ?_
  refine c_seq (c_plain ?_)
  refine x_load (xv := .pointer (some ⟨b2, 0, none⟩)) (.agg #[.slice a_p0_0 (p0_0).length c_p0_0, .int .i64 p0_1]) rfl rfl rfl (reads_boxagg 0 [.slice a_p0_0 (p0_0).length c_p0_0, .int .i64 p0_1] tagg24 hb2 nn rfl) ?_
  obtain ⟨x4, hx, h⟩ := bind_some h
  have hpk : MS w2 ([] ++ [[b2], M]) := hms.pick [some 0, some 1] _ rfl
  have hsb0 : ∀ x ∈ fl ([] ++ [[b2], M]), x ∈ fl [[b2], M] := pick_sub [some 0, some 1] _ rfl
  have hsb : ∀ x ∈ fl ([] ++ [(fl [[b2], M])]), x ∈ fl [[b2], M] := fun x hx => hsb0 x (fl_unfold x hx)
  have hcall := job_Valid_w a_p0_0 c_p0_0 p0_0 p0_1 _ w2 (fl [[b2], M]) (MS.fold (P := []) hpk) (hs_p0_0.sub hsb) hx
  refine x_call 11 #[] #[] [.agg #[.slice a_p0_0 (p0_0).length c_p0_0, .int .i64 p0_1]] _ rfl rfl rfl rfl hcall ?_
  rintro v w5 ⟨rfl, he5⟩
  clear hcall hx
  refine ⟨.inl rfl, ?_⟩
  have hst := Stp.ext (ls := [[b2], M]) he5
  replace hs_p0_0 := hs_p0_0.step hst
  replace hb2 := he5.box hb2 nn
  replace hms := hms.ev he5
  replace hev := hev.ext he5
  clear hpk hsb hsb0
  refine x_pure 1 [(4, .int .i64 x4)] _ _ _ (by kernel_rfl) ?_
  refine x_end rfl (k_then ?_)
  refine c_seq (c_plain ?_)
  refine x_pure 2 [(7, .int .i64 x4), (8, .bool (x4 != 0))] _ _ _ (by kernel_rfl) ?_
  refine x_end rfl (k_then ?_)
  refine c_cond (x4 != 0) rfl (fun hb => ?_) (fun hb => ?_)
  · replace h := ite_t hb h
    refine c_seq (c_plain ?_)
    refine x_pure 3 [(9, .int .i64 x4), (2, .slice none 0 0), (3, .int .i64 x4)] _ _ _ (by kernel_rfl) ?_
    refine x_end rfl (k_then ?_)
    refine c_ret ?_
    refine k_then_ret ?_
    refine r_ret (r_vals [.slice none 0 0, .int .i64 x4] ⟨rfl, rfl, trivial⟩ ?_)
    have hx := some_inj h
    subst hx
    have hmr : MS w5 [blk none, M] := hms.pick [none, some 1] _ rfl
    have hsu : ∀ x ∈ fl [blk none, M], x ∈ fl [[b2], M] := pick_sub [none, some 1] _ rfl
    have hfe : FR w.heap.size [blk none] := hfr.pick [none] _ rfl
    exact ⟨none, 0, rfl, hev, hmr, hfe, OwnS.nil _ _ _ _⟩
  replace h := ite_f hb h
  refine c_skip ?_
  refine k_then ?_
  refine c_seq (c_plain ?_)
  refine x_load (xv := .pointer (some ⟨b2, 0, none⟩)) (.agg #[.slice a_p0_0 (p0_0).length c_p0_0, .int .i64 p0_1]) rfl rfl rfl (reads_boxagg 0 [.slice a_p0_0 (p0_0).length c_p0_0, .int .i64 p0_1] tagg24 hb2 nn rfl) ?_
  obtain ⟨x6, hx, h⟩ := bind_some h
  have hpk : MS w5 ([] ++ [[b2], M]) := hms.pick [some 0, some 1] _ rfl
  have hsb0 : ∀ x ∈ fl ([] ++ [[b2], M]), x ∈ fl [[b2], M] := pick_sub [some 0, some 1] _ rfl
  have hsb : ∀ x ∈ fl ([] ++ [(fl [[b2], M])]), x ∈ fl [[b2], M] := fun x hx => hsb0 x (fl_unfold x hx)
  have hcall := job_levels_w a_p0_0 c_p0_0 p0_0 p0_1 _ w5 (fl [[b2], M]) (MS.fold (P := []) hpk) (hs_p0_0.sub hsb) hx
  refine x_call 25 #[] #[] [.agg #[.slice a_p0_0 (p0_0).length c_p0_0, .int .i64 p0_1]] _ rfl rfl rfl rfl hcall ?_
  rintro v w7 ⟨a0_7, c0_7, rfl, he7, hmn7, hfn7, hf7_1⟩
  clear hcall hx
  refine ⟨.inl rfl, ?_⟩
  have hpk2 : MS w5 ([] ++ [[b2], M]) := hms.pick [some 0, some 1] _ rfl
  have hsb2 : ∀ x ∈ fl ([] ++ [[b2], M]), x ∈ fl [[b2], M] := pick_sub [some 0, some 1] _ rfl
  have hst0 := Stp.call (LS := [[b2], M]) (res := [blk a0_7]) (par := []) (R := [[b2], M]) he7 (fun b hb => hsb2 b (fl_left' (P := []) b hb)) hfn7 (NP.init _ _) (fun x hx => hsb2 x (fl_right' (P := []) x hx))
  have hsn : ∀ x ∈ fl [blk a0_7, [b2], M], x ∈ fl ([blk a0_7] ++ ([] ++ [[b2], M])) := pick_sub [some 0, some 1, some 2] _ rfl
  have hst := hst0.res hsn
  replace hs_p0_0 := hs_p0_0.step hst
  replace hb2 := he7.box hb2 ((MS.outs (P := []) hpk2 0 rfl) _ (List.mem_singleton.2 rfl))
  replace hms : MS w7 [blk a0_7, [b2], M] := (MS.call (P := []) (R := [[b2], M]) (res := [blk a0_7]) (par := []) hpk2 he7 hmn7 hfn7 (NP.init _ _)).pick [some 0, some 1, some 2] _ rfl
  have hfr2 : FR w.heap.size [blk a0_7, [b2]] := (FR.cons (fun b hb => Nat.le_trans hev.size (hfn7.at 0 rfl b hb)) (FR.cons (hfr.at 0 rfl) (FR.nil _)))
  replace hev := hev.ext he7
  replace hfr := hfr2
  clear hfr2
  replace hf7_1 := OwnS.plain (M' := fl [blk a0_7, [b2], M]) (plain_int _) hf7_1
  clear hpk hsb hsb0 hpk2 hsb2 hst0 hsn hst
  refine x_pure 2 [(2, .slice a0_7 (x6).length c0_7), (3, .int .i64 0)] _ _ _ (by kernel_rfl) ?_
  refine x_end rfl (k_then ?_)
  refine c_ret ?_
  refine r_ret (r_vals [.slice a0_7 (x6).length c0_7, .int .i64 0] ⟨rfl, rfl, trivial⟩ ?_)
  have hx := some_inj h
  subst hx
  have hmr : MS w7 [blk a0_7, M] := hms.pick [some 0, some 2] _ rfl
  have hsu : ∀ x ∈ fl [blk a0_7, M], x ∈ fl [blk a0_7, [b2], M] := pick_sub [some 0, some 2] _ rfl
  have hfe : FR w.heap.size [blk a0_7] := hfr.pick [some 0] _ rfl
  exact ⟨a0_7, c0_7, rfl, hev, hmr, hfe, hf7_1.sub hsu⟩
def job_Deepest_J26 (p0_0 : List (Int × Int × Int × Int)) (p0_1 : Int) (y_s6_l18 : Int) (x_s8_l25 : Int) : Option (Step (Int × Int) Int) :=
((job_relation p0_0 p0_1 (IntKind.i64.wrap (x_s8_l25 + 1)) y_s6_l18).bind fun x31 =>
some (.next (IntKind.i64.wrap (x_s8_l25 + 1), x31)))

def job_Deepest_L25 (p0_0 : List (Int × Int × Int × Int)) (p0_1 : Int) (x7 : (List Int)) (y_s6_l18 : Int) (s : Int × Int) : Option (Step (Int × Int) Int) :=
match s with
| (x_s8_l25, v_r_s9_l25) =>
(if (v_r_s9_l25 == 0) = true then
job_Deepest_J26 p0_0 p0_1 y_s6_l18 x_s8_l25
else
((idx x7 x_s8_l25).bind fun x27 =>
((idx x7 y_s6_l18).bind fun x29 =>
(if ((IntKind.i64.wrap ((IntKind.i64.wrap (x27 + v_r_s9_l25)) - 1)) != x29) = true then
job_Deepest_J26 p0_0 p0_1 y_s6_l18 x_s8_l25
else
some (.done x_s8_l25)))))

def job_Deepest_L18 (p0_0 : List (Int × Int × Int × Int)) (p0_1 : Int) (x7 : (List Int)) (s : Int × (List Int)) : Option (Step (Int × (List Int)) (List Int)) :=
match s with
| (y_s6_l18, d16_l18) =>
((idx x7 y_s6_l18).bind fun x20 =>
(if (decide (x20 > 0)) = true then
((job_relation p0_0 p0_1 0 y_s6_l18).bind fun x23 =>
((loop (job_Deepest_L25 p0_0 p0_1 x7 y_s6_l18) (0, x23)).bind fun d => match d with
| x_s8_x25 => (if d16_l18.length + ([x_s8_x25]).length ≤ 4294967296 then
some (.next (x_s8_x25, (d16_l18 ++ [x_s8_x25])))
else none)))
else
some (.done d16_l18)))

def job_Deepest (p0_0 : List (Int × Int × Int × Int)) (p0_1 : Int) : Option ((List Int) × Int) :=
((job_Valid p0_0 p0_1).bind fun x5 =>
(if (x5 != 0) = true then
some ([], x5)
else
((job_levels p0_0 p0_1).bind fun x7 =>
(if (((x7).length : Int) == 0) = true then
some ([], 0)
else
((slices_Max_int_int_ x7).bind fun x11 =>
((slices_Index_int_int_ x7 x11).bind fun x13 =>
((loop (job_Deepest_L18 p0_0 p0_1 x7) (x13, ([x13] : List Int))).bind fun d => match d with
| d16_x18 => some (d16_x18.reverse, 0))))))))

theorem job_Deepest_w (a_p0_0 : Option Addr) (c_p0_0 : Nat) (p0_0 : List (Int × Int × Int × Int)) (p0_1 : Int) (r : (List Int) × Int) (w : World) (M : List Nat) (hms : MS w [M]) (hs_p0_0 : SlR (eProd (eInt .i64) (eProd (eInt .i64) (eProd (eInt .i64) (eInt .i64)))) w (fl [M]) a_p0_0 c_p0_0 p0_0) (h : job_Deepest p0_0 p0_1 = some r) : CallVC Try.prog 22 [.agg #[.slice a_p0_0 (p0_0).length c_p0_0, .int .i64 p0_1]] w fun v w' => ∃ (a0' : Option Addr), ∃ (c0' : Nat), v = .tuple #[.slice a0' (r.1).length c0', .int .i64 r.2] ∧ Ev [] w w' ∧ MS w' [blk a0', M] ∧ FR w.heap.size [blk a0'] ∧ OwnS (eInt .i64) 3 w' (fl [blk a0', M]) a0' c0' r.1 := by
  refine calls_vc hmx Try.func22 (by kernel_rfl) rfl (rs := [.tmp 2, .tmp 3]) rfl (by kernel_rfl) (args := [.agg #[.slice a_p0_0 (p0_0).length c_p0_0, .int .i64 p0_1]]) rfl ?_
  have hev : Ev [] w w := Ev.refl _ _
  have hfr : FR w.heap.size [] := FR.nil _
  refine c_seq (c_plain ?_)
  refine x_box (xv := .agg #[.slice a_p0_0 (p0_0).length c_p0_0, .int .i64 p0_1]) rfl rfl rfl (fun b2 w2 hq2 hb2 he2 hz2 => ?_)
  replace hb2 : w2.heap[b2]? = some (.cells #[.slice a_p0_0 (p0_0).length c_p0_0, .int .i64 p0_1] 24 (0, 0)) := hb2
  refine ⟨.inl rfl, ?_⟩
  have hst := Stp.box (ls := [M]) he2 hq2
  replace hs_p0_0 := hs_p0_0.step hst
  replace hms := hms.box he2 hq2 hb2
  replace hfr := hfr.box hev.size hq2
  replace hev := hev.ext he2
  refine x_pure 2 [(2, .slice none 0 0), (3, .int .i64 0)] _ _ _ (by kernel_rfl) ?_
  refine x_end rfl (k_then ?_)
  refine c_seq ?_
  refine c_seq (c_plain ?_)
  refine x_load (xv := .pointer (some ⟨b2, 0, none⟩)) (.agg #[.slice a_p0_0 (p0_0).length c_p0_0, .int .i64 p0_1]) rfl rfl rfl (reads_boxagg 0 [.slice a_p0_0 (p0_0).length c_p0_0, .int .i64 p0_1] tagg24 hb2 nn rfl) ?_
  obtain ⟨x5, hx, h⟩ := bind_some h
  have hpk : MS w2 ([] ++ [[b2], M]) := hms.pick [some 0, some 1] _ rfl
  have hsb0 : ∀ x ∈ fl ([] ++ [[b2], M]), x ∈ fl [[b2], M] := pick_sub [some 0, some 1] _ rfl
  have hsb : ∀ x ∈ fl ([] ++ [(fl [[b2], M])]), x ∈ fl [[b2], M] := fun x hx => hsb0 x (fl_unfold x hx)
  have hcall := job_Valid_w a_p0_0 c_p0_0 p0_0 p0_1 _ w2 (fl [[b2], M]) (MS.fold (P := []) hpk) (hs_p0_0.sub hsb) hx
  refine x_call 11 #[] #[] [.agg #[.slice a_p0_0 (p0_0).length c_p0_0, .int .i64 p0_1]] _ rfl rfl rfl rfl hcall ?_
  rintro v w6 ⟨rfl, he6⟩
  clear hcall hx
  refine ⟨.inl rfl, ?_⟩
  have hst := Stp.ext (ls := [[b2], M]) he6
  replace hs_p0_0 := hs_p0_0.step hst
  replace hb2 := he6.box hb2 nn
  replace hms := hms.ev he6
  replace hev := hev.ext he6
  clear hpk hsb hsb0
  refine x_pure 1 [(4, .int .i64 x5)] _ _ _ (by kernel_rfl) ?_
  refine x_end rfl (k_then ?_)
  refine c_seq (c_plain ?_)
  refine x_pure 2 [(12, .int .i64 x5), (13, .bool (x5 != 0))] _ _ _ (by kernel_rfl) ?_
  refine x_end rfl (k_then ?_)
  refine c_cond (x5 != 0) rfl (fun hb => ?_) (fun hb => ?_)
  · replace h := ite_t hb h
    refine c_seq (c_plain ?_)
    refine x_pure 3 [(14, .int .i64 x5), (2, .slice none 0 0), (3, .int .i64 x5)] _ _ _ (by kernel_rfl) ?_
    refine x_end rfl (k_then ?_)
    refine c_ret ?_
    refine k_then_ret ?_
    refine r_ret (r_vals [.slice none 0 0, .int .i64 x5] ⟨rfl, rfl, trivial⟩ ?_)
    have hx := some_inj h
    subst hx
    have hmr : MS w6 [blk none, M] := hms.pick [none, some 1] _ rfl
    have hsu : ∀ x ∈ fl [blk none, M], x ∈ fl [[b2], M] := pick_sub [none, some 1] _ rfl
    have hfe : FR w.heap.size [blk none] := hfr.pick [none] _ rfl
    exact ⟨none, 0, rfl, hev, hmr, hfe, OwnS.nil _ _ _ _⟩
  replace h := ite_f hb h
  refine c_skip ?_
  refine k_then ?_
  refine c_seq (c_plain ?_)
  refine x_load (xv := .pointer (some ⟨b2, 0, none⟩)) (.agg #[.slice a_p0_0 (p0_0).length c_p0_0, .int .i64 p0_1]) rfl rfl rfl (reads_boxagg 0 [.slice a_p0_0 (p0_0).length c_p0_0, .int .i64 p0_1] tagg24 hb2 nn rfl) ?_
  obtain ⟨x7, hx, h⟩ := bind_some h
  have hpk : MS w6 ([] ++ [[b2], M]) := hms.pick [some 0, some 1] _ rfl
  have hsb0 : ∀ x ∈ fl ([] ++ [[b2], M]), x ∈ fl [[b2], M] := pick_sub [some 0, some 1] _ rfl
  have hsb : ∀ x ∈ fl ([] ++ [(fl [[b2], M])]), x ∈ fl [[b2], M] := fun x hx => hsb0 x (fl_unfold x hx)
  have hcall := job_levels_w a_p0_0 c_p0_0 p0_0 p0_1 _ w6 (fl [[b2], M]) (MS.fold (P := []) hpk) (hs_p0_0.sub hsb) hx
  refine x_call 25 #[] #[] [.agg #[.slice a_p0_0 (p0_0).length c_p0_0, .int .i64 p0_1]] _ rfl rfl rfl rfl hcall ?_
  rintro v w8 ⟨a0_8, c0_8, rfl, he8, hmn8, hfn8, hf8_1⟩
  clear hcall hx
  refine ⟨.inl rfl, ?_⟩
  have hpk2 : MS w6 ([] ++ [[b2], M]) := hms.pick [some 0, some 1] _ rfl
  have hsb2 : ∀ x ∈ fl ([] ++ [[b2], M]), x ∈ fl [[b2], M] := pick_sub [some 0, some 1] _ rfl
  have hst0 := Stp.call (LS := [[b2], M]) (res := [blk a0_8]) (par := []) (R := [[b2], M]) he8 (fun b hb => hsb2 b (fl_left' (P := []) b hb)) hfn8 (NP.init _ _) (fun x hx => hsb2 x (fl_right' (P := []) x hx))
  have hsn : ∀ x ∈ fl [blk a0_8, [b2], M], x ∈ fl ([blk a0_8] ++ ([] ++ [[b2], M])) := pick_sub [some 0, some 1, some 2] _ rfl
  have hst := hst0.res hsn
  replace hs_p0_0 := hs_p0_0.step hst
  replace hb2 := he8.box hb2 ((MS.outs (P := []) hpk2 0 rfl) _ (List.mem_singleton.2 rfl))
  replace hms : MS w8 [blk a0_8, [b2], M] := (MS.call (P := []) (R := [[b2], M]) (res := [blk a0_8]) (par := []) hpk2 he8 hmn8 hfn8 (NP.init _ _)).pick [some 0, some 1, some 2] _ rfl
  have hfr2 : FR w.heap.size [blk a0_8, [b2]] := (FR.cons (fun b hb => Nat.le_trans hev.size (hfn8.at 0 rfl b hb)) (FR.cons (hfr.at 0 rfl) (FR.nil _)))
  replace hev := hev.ext he8
  replace hfr := hfr2
  clear hfr2
  replace hf8_1 := OwnS.plain (M' := fl [blk a0_8, [b2], M]) (plain_int _) hf8_1
  clear hpk hsb hsb0 hpk2 hsb2 hst0 hsn hst
  refine x_pure 1 [(5, .slice a0_8 (x7).length c0_8)] _ _ _ (by kernel_rfl) ?_
  refine x_end rfl (k_then ?_)
  refine c_seq ?_
  refine c_seq (c_plain ?_)
  refine x_pure 1 [(17, .slice a0_8 (x7).length c0_8)] _ _ _ (by kernel_rfl) ?_
  refine x_len (vs := [.slice a0_8 (x7).length c0_8]) (.int .i64 ((x7).length : Int)) rfl rfl rfl (reads_len tsl27 _ _ _ _ _) ?_
  refine x_pure 1 [(19, .bool (((x7).length : Int) == 0))] _ _ _ (by kernel_rfl) ?_
  refine x_end rfl (k_then ?_)
  refine c_norm [(1, .pointer (some ⟨b2, 0, none⟩)), (5, .slice a0_8 (x7).length c0_8), (19, .bool (((x7).length : Int) == 0))] ⟨rfl, rfl, rfl, trivial⟩ (fun J => ?_)
  refine c_cond (((x7).length : Int) == 0) rfl (fun hb => ?_) (fun hb => ?_)
  · replace h := ite_t hb h
    refine c_seq (c_plain ?_)
    refine x_pure 2 [(2, .slice none 0 0), (3, .int .i64 0)] _ _ _ (by kernel_rfl) ?_
    refine x_end rfl (k_then ?_)
    refine c_ret ?_
    refine k_then_ret ?_
    refine r_ret (r_vals [.slice none 0 0, .int .i64 0] ⟨rfl, rfl, trivial⟩ ?_)
    have hx := some_inj h
    subst hx
    have hmr : MS w8 [blk none, M] := hms.pick [none, some 2] _ rfl
    have hsu : ∀ x ∈ fl [blk none, M], x ∈ fl [blk a0_8, [b2], M] := pick_sub [none, some 2] _ rfl
    have hfe : FR w.heap.size [blk none] := hfr.pick [none] _ rfl
    exact ⟨none, 0, rfl, hev, hmr, hfe, OwnS.nil _ _ _ _⟩
  replace h := ite_f hb h
  refine c_skip ?_
  refine k_then ?_
  refine c_seq (c_plain ?_)
  refine x_pure 2 [(20, .slice a0_8 (x7).length c0_8), (21, .slice a0_8 (x7).length c0_8)] _ _ _ (by kernel_rfl) ?_
  obtain ⟨x11, hx, h⟩ := bind_some h
  have hpk : MS w8 ([] ++ [[b2], M]) := hms.pick [some 1, some 2] _ rfl
  have hsb0 : ∀ x ∈ fl ([] ++ [[b2], M]), x ∈ fl [blk a0_8, [b2], M] := pick_sub [some 1, some 2] _ rfl
  have hsb : ∀ x ∈ fl ([] ++ [(fl [[b2], M])]), x ∈ fl [blk a0_8, [b2], M] := fun x hx => hsb0 x (fl_unfold x hx)
  have hcall := slices_Max_int_int__w a0_8 c0_8 x7 _ w8 (fl [[b2], M]) (MS.fold (P := []) hpk) (hf8_1.ro hsb (fun b hb hb2 => pick_out hms 0 rfl [some 1, some 2] ([] ++ [[b2], M]) rfl rfl b hb (fl_unfold b hb2))) hx
  refine x_call 35 #[] #[] [.slice a0_8 (x7).length c0_8] _ rfl rfl rfl rfl hcall ?_
  rintro v w12 ⟨rfl, he12⟩
  clear hcall hx
  refine ⟨.inl rfl, ?_⟩
  have hst := Stp.ext (ls := [blk a0_8, [b2], M]) he12
  replace hs_p0_0 := hs_p0_0.step hst
  replace hb2 := he12.box hb2 nn
  replace hf8_1 := hf8_1.step hst he12 nn2
  replace hms := hms.ev he12
  replace hev := hev.ext he12
  clear hpk hsb hsb0
  obtain ⟨x13, hx, h⟩ := bind_some h
  have hpk : MS w12 ([] ++ [[b2], M]) := hms.pick [some 1, some 2] _ rfl
  have hsb0 : ∀ x ∈ fl ([] ++ [[b2], M]), x ∈ fl [blk a0_8, [b2], M] := pick_sub [some 1, some 2] _ rfl
  have hsb : ∀ x ∈ fl ([] ++ [(fl [[b2], M])]), x ∈ fl [blk a0_8, [b2], M] := fun x hx => hsb0 x (fl_unfold x hx)
  have hcall := slices_Index_int_int__w a0_8 c0_8 x7 x11 _ w12 (fl [[b2], M]) (MS.fold (P := []) hpk) (hf8_1.ro hsb (fun b hb hb2 => pick_out hms 0 rfl [some 1, some 2] ([] ++ [[b2], M]) rfl rfl b hb (fl_unfold b hb2))) hx
  refine x_call 34 #[] #[] [.slice a0_8 (x7).length c0_8, .int .i64 x11] _ rfl rfl rfl rfl hcall ?_
  rintro v w14 ⟨rfl, he14⟩
  clear hcall hx
  refine ⟨.inl rfl, ?_⟩
  have hst := Stp.ext (ls := [blk a0_8, [b2], M]) he14
  replace hs_p0_0 := hs_p0_0.step hst
  replace hb2 := he14.box hb2 nn
  replace hf8_1 := hf8_1.step hst he14 nn2
  replace hms := hms.ev he14
  replace hev := hev.ext he14
  clear hpk hsb hsb0
  refine x_pure 1 [(6, .int .i64 x13)] _ _ _ (by kernel_rfl) ?_
  refine x_end rfl (k_then ?_)
  refine c_seq (c_plain ?_)
  refine x_pure 1 [(24, .int .i64 x13)] _ _ _ (by kernel_rfl) ?_
  refine x_buildSlice (vs := [(0, .int .i64 x13)]) #[.int .i64 x13] 3 rfl rfl rfl (by kernel_rfl) (fun b15 w15 hq15 hb15 he15 hz15 => ?_)
  refine ⟨.inl rfl, ?_⟩
  obtain ⟨a15, ea15⟩ : ∃ a, a = some (⟨b15, 0, none⟩ : Addr) := ⟨_, rfl⟩
  have hw15 : ∀ M, OwnS (eInt .i64) 3 w15 M a15 1 ([x13] : List Int) := fun M => ea15 ▸ own_of_box hb15 (by decide) rfl rfl (cells_at (cs := [.int .i64 x13]) (CellsOf.cons (c := [.int .i64 x13]) rfl CellsOf.nil))
  have hn15 : ∀ b ∈ blk a15, w14.heap.size ≤ b ∧ b < w15.heap.size := by subst ea15; intro b hb; simp only [blk, List.mem_singleton] at hb; subst hb; exact ⟨Nat.le_of_eq hq15.symm, lt_of_heap hb15⟩
  clear hb15
  have hst := Stp.push (ls := [blk a0_8, [b2], M]) (l := blk a15) he15 (fun _ h => by cases h) (fun b hb => (hn15 b hb).1)
  replace hs_p0_0 := hs_p0_0.step hst
  replace hb2 := he15.box hb2 nn
  replace hf8_1 := hf8_1.step hst he15 nn2
  replace hms := hms.push he15 hn15
  replace hfr := hfr.push (fun b hb => Nat.le_trans hev.size (hn15 b hb).1)
  replace hev := hev.ext he15
  have ho15 := hw15 (fl [blk a15, blk a0_8, [b2], M])
  clear hw15
  rw [← ea15]
  refine x_pure 1 [(7, .slice a15 (([x13] : List Int)).length 1)] _ _ _ (by kernel_rfl) ?_
  refine x_end rfl (k_then ?_)
  refine c_seq ?_
  refine c_block ?_
  have hpk : MS w15 [[b2], blk a0_8, blk a15, M] := hms.pick [some 2, some 1, some 0, some 3] _ rfl
  have hsu : ∀ x ∈ fl [[b2], blk a0_8, blk a15, M], x ∈ fl [blk a15, blk a0_8, [b2], M] := pick_sub [some 2, some 1, some 0, some 3] _ rfl
  replace hs_p0_0 := hs_p0_0.sub hsu
  replace hf8_1 := hf8_1.sub hsu
  replace ho15 := ho15.sub hsu
  replace hms := hpk
  replace hfr : FR w.heap.size [[b2], blk a0_8, blk a15] := hfr.pick [some 2, some 1, some 0] _ rfl
  clear hpk hsu
  obtain ⟨d18, hd18, h18⟩ := bind_some h
  obtain ⟨m18, hd18⟩ := loop_some hd18
  refine c_loop (loop_rule hmx (σ := Nat × Int × (List Int) × Option Addr × Option Addr × Nat) (fun s => match s with | (_, y_s6_l18, d16_l18, a9_l18, a16_l18, c16_l18) => [(1, .pointer (some ⟨b2, 0, none⟩)), (5, .slice a9_l18 (x7).length c0_8), (6, .int .i64 y_s6_l18), (7, .slice a16_l18 (d16_l18).length c16_l18)]) (fun s w' => match s with | (m, y_s6_l18, d16_l18, a9_l18, a16_l18, c16_l18) => loopN (job_Deepest_L18 p0_0 p0_1 x7) m (y_s6_l18, d16_l18) = some d18 ∧ Ev [] w w' ∧ MS w' [[b2], blk a9_l18, blk a16_l18, M] ∧ FR w.heap.size [[b2], blk a9_l18, blk a16_l18] ∧ SlR (eProd (eInt .i64) (eProd (eInt .i64) (eProd (eInt .i64) (eInt .i64)))) w' (fl [[b2], blk a9_l18, blk a16_l18, M]) a_p0_0 c_p0_0 p0_0 ∧ w'.heap[b2]? = some (.cells #[.slice a_p0_0 (p0_0).length c_p0_0, .int .i64 p0_1] 24 (0, 0)) ∧ OwnS (eInt .i64) 3 w' (fl [[b2], blk a9_l18, blk a16_l18, M]) a9_l18 c0_8 x7 ∧ OwnS (eInt .i64) 3 w' (fl [[b2], blk a9_l18, blk a16_l18, M]) a16_l18 c16_l18 d16_l18) (fun s => s.1) (m18, x13, ([x13] : List Int), a0_8, a15, 1) ⟨rfl, rfl, rfl, rfl, trivial⟩ ⟨hd18, hev, hms, hfr, hs_p0_0, hb2, hf8_1, ho15⟩ ?_)
  rintro ⟨m18, y_s6_l18, d16_l18, a9_l18, a16_l18, c16_l18⟩ J wl18 ⟨hn18, hev, hms, hfr, hs_p0_0, hb2, hf8_1, ho15⟩
  rcases m18 with _ | m18
  · exact (loopN_zero hn18).elim
  obtain ⟨t18, h, hn18⟩ := bind_some hn18
  refine c_seq ?_
  refine c_seq (c_plain ?_)
  refine x_pure 2 [(26, .slice a9_l18 (x7).length c0_8), (27, .int .i64 y_s6_l18)] _ _ _ (by kernel_rfl) ?_
  obtain ⟨x20, hx20, h⟩ := bind_some h
  obtain ⟨g20, cs20, ha, hr20, hc20, hR⟩ := own_index (Mo := []) tsl27 hf8_1 hx20
  subst ha
  obtain rfl := hR
  refine x_indexAddr (xv := .slice (some ⟨g20, 0, none⟩) (x7).length c0_8) (yv := .int .i64 y_s6_l18) (.pointer (some ⟨g20, (Int.toNat y_s6_l18) * (eInt .i64).n, none⟩)) rfl rfl rfl rfl hr20 ?_
  refine x_load (xv := .pointer (some ⟨g20, (Int.toNat y_s6_l18) * (eInt .i64).n, none⟩)) (.int .i64 x20) rfl rfl rfl (reads_cell0 tcell3 hc20 (fun _ h => by cases h)) ?_
  refine x_pure 1 [(30, .bool (decide (x20 > 0)))] _ _ _ (by kernel_rfl) ?_
  refine x_end rfl (k_then ?_)
  refine c_norm [(1, .pointer (some ⟨b2, 0, none⟩)), (5, .slice (some ⟨g20, 0, none⟩) (x7).length c0_8), (6, .int .i64 y_s6_l18), (7, .slice a16_l18 (d16_l18).length c16_l18), (30, .bool (decide (x20 > 0)))] ⟨rfl, rfl, rfl, rfl, rfl, trivial⟩ (fun J => ?_)
  refine c_cond (decide (x20 > 0)) rfl (fun hb => ?_) (fun hb => ?_)
  · replace h := ite_t hb h
    refine c_skip ?_
    refine k_then ?_
    refine c_block ?_
    refine c_seq (c_plain ?_)
    refine x_pure 1 [(8, .int .i64 0)] _ _ _ (by kernel_rfl) ?_
    refine x_end rfl (k_then ?_)
    refine c_seq ?_
    refine c_seq (c_plain ?_)
    refine x_load (xv := .pointer (some ⟨b2, 0, none⟩)) (.agg #[.slice a_p0_0 (p0_0).length c_p0_0, .int .i64 p0_1]) rfl rfl rfl (reads_boxagg 0 [.slice a_p0_0 (p0_0).length c_p0_0, .int .i64 p0_1] tagg24 hb2 nn rfl) ?_
    refine x_pure 2 [(32, .int .i64 0), (33, .int .i64 y_s6_l18)] _ _ _ (by kernel_rfl) ?_
    obtain ⟨x23, hx, h⟩ := bind_some h
    have hpk : MS wl18 ([] ++ [[b2], blk (some ⟨g20, 0, none⟩), blk a16_l18, M]) := hms.pick [some 0, some 1, some 2, some 3] _ rfl
    have hsb0 : ∀ x ∈ fl ([] ++ [[b2], blk (some ⟨g20, 0, none⟩), blk a16_l18, M]), x ∈ fl [[b2], blk (some ⟨g20, 0, none⟩), blk a16_l18, M] := pick_sub [some 0, some 1, some 2, some 3] _ rfl
    have hsb : ∀ x ∈ fl ([] ++ [(fl [[b2], blk (some ⟨g20, 0, none⟩), blk a16_l18, M])]), x ∈ fl [[b2], blk (some ⟨g20, 0, none⟩), blk a16_l18, M] := fun x hx => hsb0 x (fl_unfold x hx)
    have hcall := job_relation_w a_p0_0 c_p0_0 p0_0 p0_1 0 y_s6_l18 _ wl18 (fl [[b2], blk (some ⟨g20, 0, none⟩), blk a16_l18, M]) (MS.fold (P := []) hpk) (hs_p0_0.sub hsb) hx
    refine x_call 36 #[] #[] [.agg #[.slice a_p0_0 (p0_0).length c_p0_0, .int .i64 p0_1], .int .i64 0, .int .i64 y_s6_l18] _ rfl rfl rfl rfl hcall ?_
    rintro v w24 ⟨rfl, he24⟩
    clear hcall hx
    refine ⟨.inl rfl, ?_⟩
    have hst := Stp.ext (ls := [[b2], blk (some ⟨g20, 0, none⟩), blk a16_l18, M]) he24
    replace hb2 := he24.box hb2 nn
    replace hs_p0_0 := hs_p0_0.step hst
    replace hf8_1 := hf8_1.step hst he24 nn2
    replace ho15 := ho15.step hst he24 nn2
    replace hms := hms.ev he24
    replace hev := hev.ext he24
    clear hpk hsb hsb0
    refine x_pure 1 [(9, .int .i64 x23)] _ _ _ (by kernel_rfl) ?_
    refine x_end rfl (k_then ?_)
    refine c_block ?_
    obtain ⟨d25, hd25, h25⟩ := bind_some h
    obtain ⟨m25, hd25⟩ := loop_some hd25
    refine c_loop (loop_rule hmx (σ := Nat × Int × Int) (fun s => match s with | (_, x_s8_l25, v_r_s9_l25) => [(1, .pointer (some ⟨b2, 0, none⟩)), (5, .slice (some ⟨g20, 0, none⟩) (x7).length c0_8), (6, .int .i64 y_s6_l18), (7, .slice a16_l18 (d16_l18).length c16_l18), (8, .int .i64 x_s8_l25), (9, .int .i64 v_r_s9_l25)]) (fun s w' => match s with | (m, x_s8_l25, v_r_s9_l25) => loopN (job_Deepest_L25 p0_0 p0_1 x7 y_s6_l18) m (x_s8_l25, v_r_s9_l25) = some d25 ∧ Ev [] w w' ∧ MS w' [[b2], blk (some ⟨g20, 0, none⟩), blk a16_l18, M] ∧ FR w.heap.size [[b2], blk (some ⟨g20, 0, none⟩), blk a16_l18] ∧ SlR (eProd (eInt .i64) (eProd (eInt .i64) (eProd (eInt .i64) (eInt .i64)))) w' (fl [[b2], blk (some ⟨g20, 0, none⟩), blk a16_l18, M]) a_p0_0 c_p0_0 p0_0 ∧ w'.heap[b2]? = some (.cells #[.slice a_p0_0 (p0_0).length c_p0_0, .int .i64 p0_1] 24 (0, 0)) ∧ OwnS (eInt .i64) 3 w' (fl [[b2], blk (some ⟨g20, 0, none⟩), blk a16_l18, M]) (some ⟨g20, 0, none⟩) c0_8 x7 ∧ OwnS (eInt .i64) 3 w' (fl [[b2], blk (some ⟨g20, 0, none⟩), blk a16_l18, M]) a16_l18 c16_l18 d16_l18) (fun s => s.1) (m25, 0, x23) ⟨rfl, rfl, rfl, rfl, rfl, rfl, trivial⟩ ⟨hd25, hev, hms, hfr, hs_p0_0, hb2, hf8_1, ho15⟩ ?_)
    rintro ⟨m25, x_s8_l25, v_r_s9_l25⟩ J wl25 ⟨hn25, hev, hms, hfr, hs_p0_0, hb2, hf8_1, ho15⟩
    rcases m25 with _ | m25
    · exact (loopN_zero hn25).elim
    obtain ⟨t25, h, hn25⟩ := bind_some hn25
    refine c_join (σ := Unit) (fun s => match s with | _ => [(1, .pointer (some ⟨b2, 0, none⟩)), (5, .slice (some ⟨g20, 0, none⟩) (x7).length c0_8), (6, .int .i64 y_s6_l18), (7, .slice a16_l18 (d16_l18).length c16_l18), (8, .int .i64 x_s8_l25)]) (fun s w' => match s with | _ => job_Deepest_J26 p0_0 p0_1 y_s6_l18 x_s8_l25 = some t25 ∧ Ev [] w w' ∧ MS w' [[b2], blk (some ⟨g20, 0, none⟩), blk a16_l18, M] ∧ FR w.heap.size [[b2], blk (some ⟨g20, 0, none⟩), blk a16_l18] ∧ SlR (eProd (eInt .i64) (eProd (eInt .i64) (eProd (eInt .i64) (eInt .i64)))) w' (fl [[b2], blk (some ⟨g20, 0, none⟩), blk a16_l18, M]) a_p0_0 c_p0_0 p0_0 ∧ w'.heap[b2]? = some (.cells #[.slice a_p0_0 (p0_0).length c_p0_0, .int .i64 p0_1] 24 (0, 0)) ∧ OwnS (eInt .i64) 3 w' (fl [[b2], blk (some ⟨g20, 0, none⟩), blk a16_l18, M]) (some ⟨g20, 0, none⟩) c0_8 x7 ∧ OwnS (eInt .i64) 3 w' (fl [[b2], blk (some ⟨g20, 0, none⟩), blk a16_l18, M]) a16_l18 c16_l18 d16_l18) ?_ ?_
    · refine c_seq ?_
      refine c_drawn [] [(0, false), (1, false), (2, false), (3, false), (4, false), (5, false), (6, false), (7, false), (8, false), (9, false), (10, false), (11, false), (12, false), (13, false), (14, false), (15, false)] _ (by kernel_rfl) rfl ?_
      have hst := Stp.ext (ls := [[b2], blk (some ⟨g20, 0, none⟩), blk a16_l18, M]) (Ev.drew wl25)
      replace hb2 := (Ev.drew wl25).box hb2 nn
      replace hs_p0_0 := hs_p0_0.step hst
      replace hf8_1 := hf8_1.step hst (Ev.drew wl25) nn2
      replace ho15 := ho15.step hst (Ev.drew wl25) nn2
      replace hms := hms.ev (Ev.drew wl25)
      replace hev := hev.ext (Ev.drew wl25)
      refine x_pure 3 [(35, .int .i64 v_r_s9_l25), (36, .bool (v_r_s9_l25 == 0)), (37, .bool (v_r_s9_l25 == 0))] _ _ _ (by kernel_rfl) ?_
      refine x_split 37 (v_r_s9_l25 == 0) rfl (fun hb => ?_) (fun hb => ?_)
      · replace h := ite_t hb h
        refine x_pure 13 [(38, undef), (39, undef), (40, undef), (41, undef), (42, undef), (43, undef), (44, undef), (45, undef), (46, undef), (47, undef), (48, undef), (49, undef), (50, .bool true)] _ _ _ (by kernel_rfl) ?_
        refine x_end rfl (k_then ?_)
        refine c_norm [(1, .pointer (some ⟨b2, 0, none⟩)), (5, .slice (some ⟨g20, 0, none⟩) (x7).length c0_8), (6, .int .i64 y_s6_l18), (7, .slice a16_l18 (d16_l18).length c16_l18), (8, .int .i64 x_s8_l25), (50, .bool true)] ⟨rfl, rfl, rfl, rfl, rfl, rfl, trivial⟩ (fun J => ?_)
        refine c_true rfl ?_
        refine c_skip ?_
        exact k_then ⟨(), ⟨rfl, rfl, rfl, rfl, rfl, trivial⟩, h, hev, hms, hfr, hs_p0_0, hb2, hf8_1, ho15⟩
      replace h := ite_f hb h
      refine x_pure 2 [(38, .slice (some ⟨g20, 0, none⟩) (x7).length c0_8), (39, .int .i64 x_s8_l25)] _ _ _ (by kernel_rfl) ?_
      obtain ⟨x27, hx27, h⟩ := bind_some h
      obtain ⟨g27, cs27, ha, hr27, hc27, hR⟩ := own_index (Mo := []) tsl27 hf8_1 hx27
      have hg : g20 = g27 := by cases ha; rfl
      subst hg
      obtain rfl := hR
      refine x_indexAddr (xv := .slice (some ⟨g20, 0, none⟩) (x7).length c0_8) (yv := .int .i64 x_s8_l25) (.pointer (some ⟨g20, (Int.toNat x_s8_l25) * (eInt .i64).n, none⟩)) rfl rfl rfl rfl hr27 ?_
      refine x_load (xv := .pointer (some ⟨g20, (Int.toNat x_s8_l25) * (eInt .i64).n, none⟩)) (.int .i64 x27) rfl rfl rfl (reads_cell0 tcell3 hc27 (fun _ h => by cases h)) ?_
      refine x_pure 5 [(42, .int .i64 v_r_s9_l25), (43, .int .i64 (IntKind.i64.wrap (x27 + v_r_s9_l25))), (44, .int .i64 (IntKind.i64.wrap ((IntKind.i64.wrap (x27 + v_r_s9_l25)) - 1))), (45, .slice (some ⟨g20, 0, none⟩) (x7).length c0_8), (46, .int .i64 y_s6_l18)] _ _ _ (by kernel_rfl) ?_
      obtain ⟨x29, hx29, h⟩ := bind_some h
      obtain ⟨g29, cs29, ha, hr29, hc29, hR⟩ := own_index (Mo := []) tsl27 hf8_1 hx29
      have hg : g20 = g29 := by cases ha; rfl
      subst hg
      obtain rfl := hR
      refine x_indexAddr (xv := .slice (some ⟨g20, 0, none⟩) (x7).length c0_8) (yv := .int .i64 y_s6_l18) (.pointer (some ⟨g20, (Int.toNat y_s6_l18) * (eInt .i64).n, none⟩)) rfl rfl rfl rfl hr29 ?_
      refine x_load (xv := .pointer (some ⟨g20, (Int.toNat y_s6_l18) * (eInt .i64).n, none⟩)) (.int .i64 x29) rfl rfl rfl (reads_cell0 tcell3 hc29 (fun _ h => by cases h)) ?_
      refine x_pure 2 [(49, .bool ((IntKind.i64.wrap ((IntKind.i64.wrap (x27 + v_r_s9_l25)) - 1)) != x29)), (50, .bool ((IntKind.i64.wrap ((IntKind.i64.wrap (x27 + v_r_s9_l25)) - 1)) != x29))] _ _ _ (by kernel_rfl) ?_
      refine x_end rfl (k_then ?_)
      refine c_norm [(1, .pointer (some ⟨b2, 0, none⟩)), (5, .slice (some ⟨g20, 0, none⟩) (x7).length c0_8), (6, .int .i64 y_s6_l18), (7, .slice a16_l18 (d16_l18).length c16_l18), (8, .int .i64 x_s8_l25), (50, .bool ((IntKind.i64.wrap ((IntKind.i64.wrap (x27 + v_r_s9_l25)) - 1)) != x29))] ⟨rfl, rfl, rfl, rfl, rfl, rfl, trivial⟩ (fun J => ?_)
      refine c_cond ((IntKind.i64.wrap ((IntKind.i64.wrap (x27 + v_r_s9_l25)) - 1)) != x29) rfl (fun hb => ?_) (fun hb => ?_)
      · replace h := ite_t hb h
        refine c_skip ?_
        exact k_then ⟨(), ⟨rfl, rfl, rfl, rfl, rfl, trivial⟩, h, hev, hms, hfr, hs_p0_0, hb2, hf8_1, ho15⟩
      replace h := ite_f hb h
      refine c_exit ?_
      refine k_then_exit ?_
      have hx := some_inj h
      subst hx
      have hy := some_inj hn25
      subst hy
      replace h := h25
      refine k_then_exit ?_
      refine k_block_in ?_
      refine k_then ?_
      refine c_norm [(1, .pointer (some ⟨b2, 0, none⟩)), (5, .slice (some ⟨g20, 0, none⟩) (x7).length c0_8), (7, .slice a16_l18 (d16_l18).length c16_l18), (8, .int .i64 x_s8_l25)] ⟨rfl, rfl, rfl, rfl, trivial⟩ (fun J => ?_)
      refine c_seq (c_plain ?_)
      refine x_pure 2 [(57, .slice a16_l18 (d16_l18).length c16_l18), (58, .int .i64 x_s8_l25)] _ _ _ (by kernel_rfl) ?_
      refine x_buildSlice (vs := [(0, .int .i64 x_s8_l25)]) #[.int .i64 x_s8_l25] 3 rfl rfl rfl (by kernel_rfl) (fun b33 w33 hq33 hb33 he33 hz33 => ?_)
      refine ⟨.inl rfl, ?_⟩
      have hms0 := hms
      have hst := Stp.ext (ls := [[b2], blk (some ⟨g20, 0, none⟩), blk a16_l18, M]) he33
      replace hb2 := he33.box hb2 nn
      replace hs_p0_0 := hs_p0_0.step hst
      replace hf8_1 := hf8_1.step hst he33 nn2
      replace ho15 := ho15.step hst he33 nn2
      replace hms := hms.ev he33
      replace hev := hev.ext he33
      have hs33 : SlR (eInt .i64) w33 (fl [[b2], blk (some ⟨g20, 0, none⟩), blk a16_l18, M]) (some ⟨b33, 0, none⟩) 1 ([x_s8_l25]) := ro_of_box hms0 hq33 hb33 rfl rfl (cells_at (cs := [.int .i64 x_s8_l25]) (CellsOf.cons (c := [.int .i64 x_s8_l25]) rfl CellsOf.nil))
      clear hb33 hms0
      have hg := guard_l h
      replace h := guard_r h
      obtain ⟨a35, c35, w35, hr35, he35, hn35, hm35, hw35⟩ := own_appendN tel27 27 ho15 (mem_flat 2 rfl) hs33 hg
      refine x_builtin (vs := [.slice a16_l18 (d16_l18).length c16_l18, .slice (some ⟨b33, 0, none⟩) ([x_s8_l25]).length 1]) _ w35 rfl rfl rfl rfl (run_value _ _ _ _ hr35) ?_
      refine ⟨.inl rfl, ?_⟩
      have hst : Stp (fl [[b2], blk (some ⟨g20, 0, none⟩), blk a16_l18, M]) w33 (fl [[b2], blk (some ⟨g20, 0, none⟩), blk a35, M]) w35 := Stp.upd 2 he35 rfl (fun b hb => (hn35 b hb).1)
      replace hb2 := he35.box hb2 (hms.apart 0 2 rfl rfl rfl _ (List.mem_singleton.2 rfl))
      replace hs_p0_0 := hs_p0_0.step hst
      replace hf8_1 := hf8_1.step hst he35 (hms.apart 1 2 rfl rfl rfl)
      replace hs33 := hs33.step hst
      replace hms : MS w35 [[b2], blk (some ⟨g20, 0, none⟩), blk a35, M] := hms.upd 2 he35 rfl hn35
      have hfr2 : FR w.heap.size [[b2], blk (some ⟨g20, 0, none⟩), blk a35] := hfr.upd 2 rfl hev.size (fun b hb => (hn35 b hb).1)
      replace hev := hev.then he35 (fun b hb => .inr (hfr.at 2 rfl b hb))
      replace hfr := hfr2
      clear hfr2
      replace ho15 := hw35 (fl [[b2], blk (some ⟨g20, 0, none⟩), blk a35, M]) hst.new
      clear hw35
      refine x_pure 1 [(7, .slice a35 ((d16_l18 ++ [x_s8_l25])).length c35)] _ _ _ (by kernel_rfl) ?_
      refine x_end rfl (k_then ?_)
      refine c_plain ?_
      refine x_pure 2 [(61, .int .i64 x_s8_l25), (6, .int .i64 x_s8_l25)] _ _ _ (by kernel_rfl) ?_
      refine x_end rfl ?_
      refine k_block ?_
      have hx := some_inj h
      subst hx
      exact k_then ⟨(m18, x_s8_l25, (d16_l18 ++ [x_s8_l25]), (some ⟨g20, 0, none⟩), a35, c35), ⟨rfl, rfl, rfl, rfl, trivial⟩, ⟨hn18, hev, hms, hfr, hs_p0_0, hb2, hf8_1, ho15⟩, Nat.lt_succ_self _⟩
    rintro _ J wj26 ⟨h, hev, hms, hfr, hs_p0_0, hb2, hf8_1, ho15⟩
    refine c_seq ?_
    refine c_block ?_
    refine c_plain ?_
    refine x_pure 3 [(55, .int .i64 x_s8_l25), (56, .int .i64 (IntKind.i64.wrap (x_s8_l25 + 1))), (8, .int .i64 (IntKind.i64.wrap (x_s8_l25 + 1)))] _ _ _ (by kernel_rfl) ?_
    refine x_end rfl ?_
    refine k_block ?_
    refine k_then ?_
    refine c_norm [(1, .pointer (some ⟨b2, 0, none⟩)), (5, .slice (some ⟨g20, 0, none⟩) (x7).length c0_8), (6, .int .i64 y_s6_l18), (7, .slice a16_l18 (d16_l18).length c16_l18), (8, .int .i64 (IntKind.i64.wrap (x_s8_l25 + 1)))] ⟨rfl, rfl, rfl, rfl, rfl, trivial⟩ (fun J => ?_)
    refine c_plain ?_
    refine x_load (xv := .pointer (some ⟨b2, 0, none⟩)) (.agg #[.slice a_p0_0 (p0_0).length c_p0_0, .int .i64 p0_1]) rfl rfl rfl (reads_boxagg 0 [.slice a_p0_0 (p0_0).length c_p0_0, .int .i64 p0_1] tagg24 hb2 nn rfl) ?_
    refine x_pure 2 [(52, .int .i64 (IntKind.i64.wrap (x_s8_l25 + 1))), (53, .int .i64 y_s6_l18)] _ _ _ (by kernel_rfl) ?_
    obtain ⟨x31, hx, h⟩ := bind_some h
    have hpk : MS wj26 ([] ++ [[b2], blk (some ⟨g20, 0, none⟩), blk a16_l18, M]) := hms.pick [some 0, some 1, some 2, some 3] _ rfl
    have hsb0 : ∀ x ∈ fl ([] ++ [[b2], blk (some ⟨g20, 0, none⟩), blk a16_l18, M]), x ∈ fl [[b2], blk (some ⟨g20, 0, none⟩), blk a16_l18, M] := pick_sub [some 0, some 1, some 2, some 3] _ rfl
    have hsb : ∀ x ∈ fl ([] ++ [(fl [[b2], blk (some ⟨g20, 0, none⟩), blk a16_l18, M])]), x ∈ fl [[b2], blk (some ⟨g20, 0, none⟩), blk a16_l18, M] := fun x hx => hsb0 x (fl_unfold x hx)
    have hcall := job_relation_w a_p0_0 c_p0_0 p0_0 p0_1 (IntKind.i64.wrap (x_s8_l25 + 1)) y_s6_l18 _ wj26 (fl [[b2], blk (some ⟨g20, 0, none⟩), blk a16_l18, M]) (MS.fold (P := []) hpk) (hs_p0_0.sub hsb) hx
    refine x_call 36 #[] #[] [.agg #[.slice a_p0_0 (p0_0).length c_p0_0, .int .i64 p0_1], .int .i64 (IntKind.i64.wrap (x_s8_l25 + 1)), .int .i64 y_s6_l18] _ rfl rfl rfl rfl hcall ?_
    rintro v w32 ⟨rfl, he32⟩
    clear hcall hx
    refine ⟨.inl rfl, ?_⟩
    have hst := Stp.ext (ls := [[b2], blk (some ⟨g20, 0, none⟩), blk a16_l18, M]) he32
    replace hb2 := he32.box hb2 nn
    replace hs_p0_0 := hs_p0_0.step hst
    replace hf8_1 := hf8_1.step hst he32 nn2
    replace ho15 := ho15.step hst he32 nn2
    replace hms := hms.ev he32
    replace hev := hev.ext he32
    clear hpk hsb hsb0
    refine x_pure 1 [(9, .int .i64 x31)] _ _ _ (by kernel_rfl) ?_
    refine x_end rfl ?_
    have hx := some_inj h
    subst hx
    exact k_then ⟨(m25, IntKind.i64.wrap (x_s8_l25 + 1), x31), ⟨rfl, rfl, rfl, rfl, rfl, rfl, trivial⟩, ⟨hn25, hev, hms, hfr, hs_p0_0, hb2, hf8_1, ho15⟩, Nat.lt_succ_self _⟩
  replace h := ite_f hb h
  refine c_exit ?_
  refine k_then_exit ?_
  have hx := some_inj h
  subst hx
  have hy := some_inj hn18
  subst hy
  replace h := h18
  refine k_then_exit ?_
  refine k_block_in ?_
  refine k_then ?_
  refine c_norm [(7, .slice a16_l18 (d16_l18).length c16_l18)] ⟨rfl, trivial⟩ (fun J => ?_)
  refine c_seq (c_plain ?_)
  refine x_pure 1 [(62, .slice a16_l18 (d16_l18).length c16_l18)] _ _ _ (by kernel_rfl) ?_
  have hcall := revI_w (P := Try.prog) Lreverse (f := 37) rfl ⟨_, Try.func37, by kernel_rfl, rfl⟩ (T := 3) ho15
  refine x_call 37 #[] #[] [.slice a16_l18 (d16_l18).length c16_l18] _ rfl rfl rfl rfl hcall ?_
  rintro v w36 ⟨rfl, he36, hln36, hw36⟩
  clear hcall
  refine ⟨.inl rfl, ?_⟩
  have hst := Stp.ev' (ls := [[b2], blk (some ⟨g20, 0, none⟩), blk a16_l18, M]) he36 (mem_flat 2 rfl)
  replace hb2 := he36.box hb2 (hms.apart 0 2 rfl rfl rfl _ (List.mem_singleton.2 rfl))
  replace hs_p0_0 := hs_p0_0.step hst
  replace hf8_1 := hf8_1.step hst he36 (hms.apart 1 2 rfl rfl rfl)
  replace hms := hms.ev he36
  replace hev := hev.then he36 (fun b hb => .inr (hfr.at 2 rfl b hb))
  replace ho15 := hw36 (fl [[b2], blk (some ⟨g20, 0, none⟩), blk a16_l18, M])
  have hsl : (Value.slice a16_l18 (d16_l18).length c16_l18) = (Value.slice a16_l18 (d16_l18.reverse).length c16_l18) := by first | (rw [hln36]; done) | simp only [hln36]
  try rw [hsl]
  clear hsl
  refine x_end rfl (k_then ?_)
  refine c_seq (c_plain ?_)
  refine x_pure 3 [(64, .slice a16_l18 (d16_l18.reverse).length c16_l18), (2, .slice a16_l18 (d16_l18.reverse).length c16_l18), (3, .int .i64 0)] _ _ _ (by kernel_rfl) ?_
  refine x_end rfl (k_then ?_)
  refine c_ret ?_
  refine r_ret (r_vals [.slice a16_l18 (d16_l18.reverse).length c16_l18, .int .i64 0] ⟨rfl, rfl, trivial⟩ ?_)
  have hx := some_inj h
  subst hx
  have hmr : MS w36 [blk a16_l18, M] := hms.pick [some 2, some 3] _ rfl
  have hsu : ∀ x ∈ fl [blk a16_l18, M], x ∈ fl [[b2], blk (some ⟨g20, 0, none⟩), blk a16_l18, M] := pick_sub [some 2, some 3] _ rfl
  have hfe : FR w.heap.size [blk a16_l18] := hfr.pick [some 2] _ rfl
  exact ⟨a16_l18, c16_l18, rfl, hev, hmr, hfe, ho15.sub hsu⟩
def job_Sorted_L17 (p0_0 : List (Int × Int × Int × Int)) (t24__s24_l11 : Int) (x13 : List Int) (s : (List Bool) × Int × Int) : Option (Step ((List Bool) × Int × Int) (Unit ⊕ ((List Bool) × Int))) :=
match s with
| (d9_l17, n_s8_l17, t31__s31_l17) =>
(if (decide (t31__s31_l17 < ((x13).length : Int))) = true then
((idx x13 t31__s31_l17).bind fun x19 =>
((job_in x19 0 (IntKind.i64.wrap (((p0_0).length : Int) - 1))).bind fun x21 =>
(if (!x21) = true then
some (.done (.inl ()))
else
((idx d9_l17 x19).bind fun x23 =>
(if x23 = true then
some (.done (.inl ()))
else
((idx p0_0 x19).bind fun x25 =>
(if (x25.1 != t24__s24_l11) = true then
some (.done (.inl ()))
else
(if (decide (t31__s31_l17 > 0)) = true then
((idx p0_0 x19).bind fun x27 =>
((idx x13 (IntKind.i64.wrap (t31__s31_l17 - 1))).bind fun x29 =>
((idx p0_0 x29).bind fun x31 =>
(if (decide (x27.2.1 < x31.2.1)) = true then
some (.done (.inl ()))
else
((idx d9_l17 x19).bind fun x33 =>
some (.next ((d9_l17.set (Int.toNat x19) true), IntKind.i64.wrap (n_s8_l17 + 1), IntKind.i64.wrap (t31__s31_l17 + 1))))))))
else
((idx d9_l17 x19).bind fun x36 =>
some (.next ((d9_l17.set (Int.toNat x19) true), IntKind.i64.wrap (n_s8_l17 + 1), IntKind.i64.wrap (t31__s31_l17 + 1))))))))))))
else
some (.done (.inr (d9_l17, n_s8_l17))))

def job_Sorted_L11 (p0_0 : List (Int × Int × Int × Int)) (p1 : List (List Int)) (s : (List Bool) × Int × Int) : Option (Step ((List Bool) × Int × Int) (Unit ⊕ Int)) :=
match s with
| (d9_l11, n_s8_l11, t24__s24_l11) =>
(if (decide (t24__s24_l11 < ((p1).length : Int))) = true then
((idx p1 t24__s24_l11).bind fun x13 =>
((loop (job_Sorted_L17 p0_0 t24__s24_l11 x13) (d9_l11, n_s8_l11, 0)).bind fun d => match d with
| (.inl _) => some (.done (.inl ()))
| (.inr (d9_x1701, n_s8_x1701)) => some (.next (d9_x1701, n_s8_x1701, IntKind.i64.wrap (t24__s24_l11 + 1)))))
else
some (.done (.inr n_s8_l11)))

def job_Sorted (p0_0 : List (Int × Int × Int × Int)) (p0_1 : Int) (p1 : List (List Int)) : Option (Bool × Int) :=
((job_Valid p0_0 p0_1).bind fun x6 =>
(if (x6 != 0) = true then
some (false, x6)
else
(if (0 : Int) ≤ ((p0_0).length : Int) ∧ (((p0_0).length : Int) : Int) ≤ 4294967296 then
((loop (job_Sorted_L11 p0_0 p1) ((List.replicate (Int.toNat ((p0_0).length : Int)) false : List Bool), 0, 0)).bind fun d => match d with
| (.inl _) => some (false, 0)
| (.inr n_s8_x1101) => some (n_s8_x1101 == ((p0_0).length : Int), 0))
else none)))

theorem job_Sorted_w (a_p0_0 : Option Addr) (c_p0_0 : Nat) (p0_0 : List (Int × Int × Int × Int)) (p0_1 : Int) (a_p1 : Option Addr) (c_p1 : Nat) (p1 : List (List Int)) (r : Bool × Int) (w : World) (M : List Nat) (hms : MS w [M]) (hs_p0_0 : SlR (eProd (eInt .i64) (eProd (eInt .i64) (eProd (eInt .i64) (eInt .i64)))) w (fl [M]) a_p0_0 c_p0_0 p0_0) (hs_p1 : SlR (eSl (eInt .i64)) w (fl [M]) a_p1 c_p1 p1) (h : job_Sorted p0_0 p0_1 p1 = some r) : CallVC Try.prog 15 [.agg #[.slice a_p0_0 (p0_0).length c_p0_0, .int .i64 p0_1], .slice a_p1 (p1).length c_p1] w fun v w' => v = .tuple #[.bool r.1, .int .i64 r.2] ∧ Ev [] w w' := by
  refine calls_vc hmx Try.func15 (by kernel_rfl) rfl (rs := [.tmp 4, .tmp 5]) rfl (by kernel_rfl) (args := [.agg #[.slice a_p0_0 (p0_0).length c_p0_0, .int .i64 p0_1], .slice a_p1 (p1).length c_p1]) rfl ?_
  have hev : Ev [] w w := Ev.refl _ _
  have hfr : FR w.heap.size [] := FR.nil _
  refine c_seq (c_plain ?_)
  refine x_box (xv := .agg #[.slice a_p0_0 (p0_0).length c_p0_0, .int .i64 p0_1]) rfl rfl rfl (fun b3 w3 hq3 hb3 he3 hz3 => ?_)
  replace hb3 : w3.heap[b3]? = some (.cells #[.slice a_p0_0 (p0_0).length c_p0_0, .int .i64 p0_1] 24 (0, 0)) := hb3
  refine ⟨.inl rfl, ?_⟩
  have hst := Stp.box (ls := [M]) he3 hq3
  replace hs_p0_0 := hs_p0_0.step hst
  replace hs_p1 := hs_p1.step hst
  replace hms := hms.box he3 hq3 hb3
  replace hfr := hfr.box hev.size hq3
  replace hev := hev.ext he3
  refine x_pure 2 [(4, .bool false), (5, .int .i64 0)] _ _ _ (by kernel_rfl) ?_
  refine x_end rfl (k_then ?_)
  refine c_seq ?_
  refine c_seq (c_plain ?_)
  refine x_load (xv := .pointer (some ⟨b3, 0, none⟩)) (.agg #[.slice a_p0_0 (p0_0).length c_p0_0, .int .i64 p0_1]) rfl rfl rfl (reads_boxagg 0 [.slice a_p0_0 (p0_0).length c_p0_0, .int .i64 p0_1] tagg24 hb3 nn rfl) ?_
  obtain ⟨x6, hx, h⟩ := bind_some h
  have hpk : MS w3 ([] ++ [[b3], M]) := hms.pick [some 0, some 1] _ rfl
  have hsb0 : ∀ x ∈ fl ([] ++ [[b3], M]), x ∈ fl [[b3], M] := pick_sub [some 0, some 1] _ rfl
  have hsb : ∀ x ∈ fl ([] ++ [(fl [[b3], M])]), x ∈ fl [[b3], M] := fun x hx => hsb0 x (fl_unfold x hx)
  have hcall := job_Valid_w a_p0_0 c_p0_0 p0_0 p0_1 _ w3 (fl [[b3], M]) (MS.fold (P := []) hpk) (hs_p0_0.sub hsb) hx
  refine x_call 11 #[] #[] [.agg #[.slice a_p0_0 (p0_0).length c_p0_0, .int .i64 p0_1]] _ rfl rfl rfl rfl hcall ?_
  rintro v w7 ⟨rfl, he7⟩
  clear hcall hx
  refine ⟨.inl rfl, ?_⟩
  have hst := Stp.ext (ls := [[b3], M]) he7
  replace hs_p0_0 := hs_p0_0.step hst
  replace hs_p1 := hs_p1.step hst
  replace hb3 := he7.box hb3 nn
  replace hms := hms.ev he7
  replace hev := hev.ext he7
  clear hpk hsb hsb0
  refine x_pure 1 [(6, .int .i64 x6)] _ _ _ (by kernel_rfl) ?_
  refine x_end rfl (k_then ?_)
  refine c_seq (c_plain ?_)
  refine x_pure 2 [(15, .int .i64 x6), (16, .bool (x6 != 0))] _ _ _ (by kernel_rfl) ?_
  refine x_end rfl (k_then ?_)
  refine c_cond (x6 != 0) rfl (fun hb => ?_) (fun hb => ?_)
  · replace h := ite_t hb h
    refine c_seq (c_plain ?_)
    refine x_pure 3 [(17, .int .i64 x6), (4, .bool false), (5, .int .i64 x6)] _ _ _ (by kernel_rfl) ?_
    refine x_end rfl (k_then ?_)
    refine c_ret ?_
    refine k_then_ret ?_
    refine r_ret (r_vals [.bool false, .int .i64 x6] ⟨rfl, rfl, trivial⟩ ?_)
    have hx := some_inj h
    subst hx
    have hmr : MS w7 [M] := hms.pick [some 1] _ rfl
    have hsu : ∀ x ∈ fl [M], x ∈ fl [[b3], M] := pick_sub [some 1] _ rfl
    exact ⟨rfl, hev⟩
  replace h := ite_f hb h
  refine c_skip ?_
  refine k_then ?_
  refine c_seq (c_plain ?_)
  refine x_fieldAddr (xv := .pointer (some ⟨b3, 0, none⟩)) (.pointer (some ⟨b3, 0, none⟩)) rfl rfl rfl (reads_field tfld24_0 _ _) ?_
  refine x_load (xv := .pointer (some ⟨b3, 0, none⟩)) (.slice a_p0_0 (p0_0).length c_p0_0) rfl rfl rfl (reads_box tcell22 hb3 nn 0 _ rfl) ?_
  refine x_len (vs := [.slice a_p0_0 (p0_0).length c_p0_0]) (.int .i64 ((p0_0).length : Int)) rfl rfl rfl (reads_len tsl22 _ _ _ _ _) ?_
  have hg := guard_l h
  replace h := guard_r h
  obtain ⟨a8, c8, w8, hr8, he8, hn8, hw8⟩ := own_make (e := eBool) tel57 w7 ((p0_0).length : Int) hg.1 hg.2 false (fun _ _ => rfl)
  refine x_makeSlice _ w8 (xv := .int .i64 ((p0_0).length : Int)) (yv := .int .i64 ((p0_0).length : Int)) rfl rfl rfl rfl hr8 ?_
  refine ⟨.inl rfl, ?_⟩
  have hst := Stp.push (ls := [[b3], M]) (l := blk a8) he8 (fun _ h => by cases h) (fun b hb => (hn8 b hb).1)
  replace hs_p0_0 := hs_p0_0.step hst
  replace hs_p1 := hs_p1.step hst
  replace hb3 := he8.box hb3 nn
  replace hms := hms.push he8 hn8
  replace hfr := hfr.push (fun b hb => Nat.le_trans hev.size (hn8 b hb).1)
  replace hev := hev.ext he8
  have ho8 := hw8 (fl [blk a8, [b3], M])
  clear hw8
  refine x_pure 1 [(7, .slice a8 ((List.replicate (Int.toNat ((p0_0).length : Int)) false : List Bool)).length c8)] _ _ _ (by kernel_rfl) ?_
  refine x_end rfl (k_then ?_)
  refine c_norm [(1, .slice a_p1 (p1).length c_p1), (2, .pointer (some ⟨b3, 0, none⟩)), (7, .slice a8 ((List.replicate (Int.toNat ((p0_0).length : Int)) false : List Bool)).length c8)] ⟨rfl, rfl, rfl, trivial⟩ (fun J => ?_)
  refine c_seq (c_plain ?_)
  refine x_pure 1 [(8, .int .i64 0)] _ _ _ (by kernel_rfl) ?_
  refine x_end rfl (k_then ?_)
  refine c_seq ?_
  refine c_seq (c_plain ?_)
  refine x_pure 1 [(22, .slice a_p1 (p1).length c_p1)] _ _ _ (by kernel_rfl) ?_
  refine x_len (vs := [.slice a_p1 (p1).length c_p1]) (.int .i64 ((p1).length : Int)) rfl rfl rfl (reads_len tsl37 _ _ _ _ _) ?_
  refine x_pure 1 [(24, .int .i64 0)] _ _ _ (by kernel_rfl) ?_
  refine x_end rfl (k_then ?_)
  refine c_block ?_
  have hpk : MS w8 [[b3], blk a8, M] := hms.pick [some 1, some 0, some 2] _ rfl
  have hsu : ∀ x ∈ fl [[b3], blk a8, M], x ∈ fl [blk a8, [b3], M] := pick_sub [some 1, some 0, some 2] _ rfl
  replace hs_p0_0 := hs_p0_0.sub hsu
  replace ho8 := ho8.sub hsu
  replace hs_p1 := hs_p1.sub hsu
  replace hms := hpk
  replace hfr : FR w.heap.size [[b3], blk a8] := hfr.pick [some 1, some 0] _ rfl
  clear hpk hsu
  obtain ⟨d11, hd11, h11⟩ := bind_some h
  obtain ⟨m11, hd11⟩ := loop_some hd11
  refine c_loop (loop_rule hmx (σ := Nat × (List Bool) × Int × Int × Option Addr) (fun s => match s with | (_, d9_l11, n_s8_l11, t24__s24_l11, a9_l11) => [(2, .pointer (some ⟨b3, 0, none⟩)), (7, .slice a9_l11 (d9_l11).length c8), (8, .int .i64 n_s8_l11), (22, .slice a_p1 (p1).length c_p1), (23, .int .i64 ((p1).length : Int)), (24, .int .i64 t24__s24_l11)]) (fun s w' => match s with | (m, d9_l11, n_s8_l11, t24__s24_l11, a9_l11) => loopN (job_Sorted_L11 p0_0 p1) m (d9_l11, n_s8_l11, t24__s24_l11) = some d11 ∧ Ev [] w w' ∧ MS w' [[b3], blk a9_l11, M] ∧ FR w.heap.size [[b3], blk a9_l11] ∧ SlR (eProd (eInt .i64) (eProd (eInt .i64) (eProd (eInt .i64) (eInt .i64)))) w' (fl [[b3], blk a9_l11, M]) a_p0_0 c_p0_0 p0_0 ∧ w'.heap[b3]? = some (.cells #[.slice a_p0_0 (p0_0).length c_p0_0, .int .i64 p0_1] 24 (0, 0)) ∧ OwnS eBool 4 w' (fl [[b3], blk a9_l11, M]) a9_l11 c8 d9_l11 ∧ SlR (eSl (eInt .i64)) w' (fl [[b3], blk a9_l11, M]) a_p1 c_p1 p1) (fun s => s.1) (m11, (List.replicate (Int.toNat ((p0_0).length : Int)) false : List Bool), 0, 0, a8) ⟨rfl, rfl, rfl, rfl, rfl, rfl, trivial⟩ ⟨hd11, hev, hms, hfr, hs_p0_0, hb3, ho8, hs_p1⟩ ?_)
  rintro ⟨m11, d9_l11, n_s8_l11, t24__s24_l11, a9_l11⟩ J wl11 ⟨hn11, hev, hms, hfr, hs_p0_0, hb3, ho8, hs_p1⟩
  rcases m11 with _ | m11
  · exact (loopN_zero hn11).elim
  obtain ⟨t11, h, hn11⟩ := bind_some hn11
  refine c_seq (c_plain ?_)
  refine x_pure 1 [(25, .bool (decide (t24__s24_l11 < ((p1).length : Int))))] _ _ _ (by kernel_rfl) ?_
  refine x_end rfl (k_then ?_)
  refine c_norm [(2, .pointer (some ⟨b3, 0, none⟩)), (7, .slice a9_l11 (d9_l11).length c8), (8, .int .i64 n_s8_l11), (22, .slice a_p1 (p1).length c_p1), (23, .int .i64 ((p1).length : Int)), (24, .int .i64 t24__s24_l11), (25, .bool (decide (t24__s24_l11 < ((p1).length : Int))))] ⟨rfl, rfl, rfl, rfl, rfl, rfl, rfl, trivial⟩ (fun J => ?_)
  refine c_seq ?_
  refine c_cond (decide (t24__s24_l11 < ((p1).length : Int))) rfl (fun hb => ?_) (fun hb => ?_)
  · replace h := ite_t hb h
    refine c_skip ?_
    refine k_then ?_
    refine c_seq ?_
    refine c_block ?_
    refine c_seq (c_plain ?_)
    refine x_pure 1 [(26, .int .i64 t24__s24_l11)] _ _ _ (by kernel_rfl) ?_
    obtain ⟨x13, hx13, h⟩ := bind_some h
    obtain ⟨ad13, cs13, hr13, hc13, hR⟩ := reads_index (Mo := []) tsl37 hs_p1 hx13
    obtain ⟨a14, c14, rfl, hs14⟩ := hR
    refine x_indexAddr (xv := .slice a_p1 (p1).length c_p1) (yv := .int .i64 t24__s24_l11) (.pointer (some ad13)) rfl rfl rfl rfl hr13 ?_
    refine x_load (xv := .pointer (some ad13)) (.slice a14 (x13).length c14) rfl rfl rfl (reads_cell0 tcell27 hc13 (fun _ h => by cases h)) ?_
    refine x_pure 2 [(9, .int .i64 t24__s24_l11), (10, .slice a14 (x13).length c14)] _ _ _ (by kernel_rfl) ?_
    refine x_end rfl (k_then ?_)
    refine c_seq (c_plain ?_)
    refine x_pure 1 [(29, .slice a14 (x13).length c14)] _ _ _ (by kernel_rfl) ?_
    refine x_len (vs := [.slice a14 (x13).length c14]) (.int .i64 ((x13).length : Int)) rfl rfl rfl (reads_len tsl27 _ _ _ _ _) ?_
    refine x_pure 1 [(31, .int .i64 0)] _ _ _ (by kernel_rfl) ?_
    refine x_end rfl (k_then ?_)
    refine c_block ?_
    obtain ⟨d17, hd17, h17⟩ := bind_some h
    obtain ⟨m17, hd17⟩ := loop_some hd17
    refine c_loop (loop_rule hmx (σ := Nat × (List Bool) × Int × Int × Option Addr) (fun s => match s with | (_, d9_l17, n_s8_l17, t31__s31_l17, a9_l17) => [(2, .pointer (some ⟨b3, 0, none⟩)), (7, .slice a9_l17 (d9_l17).length c8), (8, .int .i64 n_s8_l17), (9, .int .i64 t24__s24_l11), (10, .slice a14 (x13).length c14), (22, .slice a_p1 (p1).length c_p1), (23, .int .i64 ((p1).length : Int)), (24, .int .i64 t24__s24_l11), (29, .slice a14 (x13).length c14), (30, .int .i64 ((x13).length : Int)), (31, .int .i64 t31__s31_l17)]) (fun s w' => match s with | (m, d9_l17, n_s8_l17, t31__s31_l17, a9_l17) => loopN (job_Sorted_L17 p0_0 t24__s24_l11 x13) m (d9_l17, n_s8_l17, t31__s31_l17) = some d17 ∧ Ev [] w w' ∧ MS w' [[b3], blk a9_l17, M] ∧ FR w.heap.size [[b3], blk a9_l17] ∧ SlR (eProd (eInt .i64) (eProd (eInt .i64) (eProd (eInt .i64) (eInt .i64)))) w' (fl [[b3], blk a9_l17, M]) a_p0_0 c_p0_0 p0_0 ∧ w'.heap[b3]? = some (.cells #[.slice a_p0_0 (p0_0).length c_p0_0, .int .i64 p0_1] 24 (0, 0)) ∧ OwnS eBool 4 w' (fl [[b3], blk a9_l17, M]) a9_l17 c8 d9_l17 ∧ SlR (eInt .i64) w' (fl [[b3], blk a9_l17, M]) a14 c14 x13 ∧ SlR (eSl (eInt .i64)) w' (fl [[b3], blk a9_l17, M]) a_p1 c_p1 p1) (fun s => s.1) (m17, d9_l11, n_s8_l11, 0, a9_l11) ⟨rfl, rfl, rfl, rfl, rfl, rfl, rfl, rfl, rfl, rfl, rfl, trivial⟩ ⟨hd17, hev, hms, hfr, hs_p0_0, hb3, ho8, hs14, hs_p1⟩ ?_)
    rintro ⟨m17, d9_l17, n_s8_l17, t31__s31_l17, a9_l17⟩ J wl17 ⟨hn17, hev, hms, hfr, hs_p0_0, hb3, ho8, hs14, hs_p1⟩
    rcases m17 with _ | m17
    · exact (loopN_zero hn17).elim
    obtain ⟨t17, h, hn17⟩ := bind_some hn17
    refine c_seq (c_plain ?_)
    refine x_pure 1 [(32, .bool (decide (t31__s31_l17 < ((x13).length : Int))))] _ _ _ (by kernel_rfl) ?_
    refine x_end rfl (k_then ?_)
    refine c_norm [(2, .pointer (some ⟨b3, 0, none⟩)), (7, .slice a9_l17 (d9_l17).length c8), (8, .int .i64 n_s8_l17), (9, .int .i64 t24__s24_l11), (10, .slice a14 (x13).length c14), (22, .slice a_p1 (p1).length c_p1), (23, .int .i64 ((p1).length : Int)), (24, .int .i64 t24__s24_l11), (29, .slice a14 (x13).length c14), (30, .int .i64 ((x13).length : Int)), (31, .int .i64 t31__s31_l17), (32, .bool (decide (t31__s31_l17 < ((x13).length : Int))))] ⟨rfl, rfl, rfl, rfl, rfl, rfl, rfl, rfl, rfl, rfl, rfl, rfl, trivial⟩ (fun J => ?_)
    refine c_seq ?_
    refine c_cond (decide (t31__s31_l17 < ((x13).length : Int))) rfl (fun hb => ?_) (fun hb => ?_)
    · replace h := ite_t hb h
      refine c_skip ?_
      refine k_then ?_
      refine c_seq ?_
      refine c_block ?_
      refine c_seq (c_plain ?_)
      refine x_pure 1 [(33, .int .i64 t31__s31_l17)] _ _ _ (by kernel_rfl) ?_
      obtain ⟨x19, hx19, h⟩ := bind_some h
      obtain ⟨ad19, cs19, hr19, hc19, hR⟩ := reads_index (Mo := []) tsl27 hs14 hx19
      obtain rfl := hR
      refine x_indexAddr (xv := .slice a14 (x13).length c14) (yv := .int .i64 t31__s31_l17) (.pointer (some ad19)) rfl rfl rfl rfl hr19 ?_
      refine x_load (xv := .pointer (some ad19)) (.int .i64 x19) rfl rfl rfl (reads_cell0 tcell3 hc19 (fun _ h => by cases h)) ?_
      refine x_pure 2 [(11, .int .i64 t31__s31_l17), (12, .int .i64 x19)] _ _ _ (by kernel_rfl) ?_
      refine x_end rfl (k_then ?_)
      refine c_seq ?_
      refine c_seq ?_
      refine c_drawn [] [(0, false), (1, false), (2, false), (3, false), (4, false), (5, false), (6, false), (7, false), (8, false), (9, false), (10, false), (11, false), (12, false), (13, false), (14, false), (15, false), (16, false), (17, false), (18, false), (19, false), (20, false), (21, false), (22, false), (23, false), (24, false), (25, false), (26, false), (27, false), (28, false), (29, false), (30, false), (31, false), (32, false), (33, false), (34, false), (35, false), (36, false), (37, false), (38, false), (39, false), (40, false), (41, false), (42, false), (43, false), (44, false), (45, false)] _ (by kernel_rfl) rfl ?_
      have hst := Stp.ext (ls := [[b3], blk a9_l17, M]) (Ev.drew wl17)
      replace hb3 := (Ev.drew wl17).box hb3 nn
      replace hs_p0_0 := hs_p0_0.step hst
      replace ho8 := ho8.step hst (Ev.drew wl17) nn2
      replace hs14 := hs14.step hst
      replace hs_p1 := hs_p1.step hst
      replace hms := hms.ev (Ev.drew wl17)
      replace hev := hev.ext (Ev.drew wl17)
      refine x_pure 1 [(36, .int .i64 x19)] _ _ _ (by kernel_rfl) ?_
      refine x_fieldAddr (xv := .pointer (some ⟨b3, 0, none⟩)) (.pointer (some ⟨b3, 0, none⟩)) rfl rfl rfl (reads_field tfld24_0 _ _) ?_
      refine x_load (xv := .pointer (some ⟨b3, 0, none⟩)) (.slice a_p0_0 (p0_0).length c_p0_0) rfl rfl rfl (reads_box tcell22 hb3 nn 0 _ rfl) ?_
      refine x_len (vs := [.slice a_p0_0 (p0_0).length c_p0_0]) (.int .i64 ((p0_0).length : Int)) rfl rfl rfl (reads_len tsl22 _ _ _ _ _) ?_
      refine x_pure 1 [(40, .int .i64 (IntKind.i64.wrap (((p0_0).length : Int) - 1)))] _ _ _ (by kernel_rfl) ?_
      obtain ⟨x21, hx, h⟩ := bind_some h
      have hcall := job_in_w x19 0 (IntKind.i64.wrap (((p0_0).length : Int) - 1)) _ (wl17).drew hx
      refine x_call 26 #[] #[] [.int .i64 x19, .int .i64 0, .int .i64 (IntKind.i64.wrap (((p0_0).length : Int) - 1))] _ rfl rfl rfl rfl hcall ?_
      rintro v w22 ⟨rfl, he22⟩
      clear hcall hx
      refine ⟨.inr he22, ?_⟩
      have hst := Stp.ext (ls := [[b3], blk a9_l17, M]) he22
      replace hb3 := he22.box hb3 nn
      replace hs_p0_0 := hs_p0_0.step hst
      replace ho8 := ho8.step hst he22 nn2
      replace hs14 := hs14.step hst
      replace hs_p1 := hs_p1.step hst
      replace hms := hms.ev he22
      replace hev := hev.ext he22
      refine x_pure 2 [(42, .bool (!x21)), (43, .bool (!x21))] _ _ _ (by kernel_rfl) ?_
      refine x_split 43 (!x21) rfl (fun hb => ?_) (fun hb => ?_)
      · replace h := ite_t hb h
        refine x_pure 38 [(44, undef), (45, undef), (46, undef), (47, undef), (48, .bool true), (49, .bool true), (50, undef), (51, undef), (52, undef), (53, undef), (54, undef), (55, undef), (56, undef), (57, undef), (58, .bool true), (59, .bool true), (60, undef), (61, undef), (62, undef), (63, undef), (64, undef), (65, undef), (66, undef), (67, undef), (68, undef), (69, undef), (70, undef), (71, undef), (72, undef), (73, undef), (74, undef), (75, undef), (76, undef), (77, undef), (78, undef), (79, undef), (80, undef), (81, .bool true)] _ _ _ (by kernel_rfl) ?_
        refine x_end rfl (k_then ?_)
        refine c_norm [(2, .pointer (some ⟨b3, 0, none⟩)), (7, .slice a9_l17 (d9_l17).length c8), (8, .int .i64 n_s8_l17), (9, .int .i64 t24__s24_l11), (10, .slice a14 (x13).length c14), (12, .int .i64 x19), (22, .slice a_p1 (p1).length c_p1), (23, .int .i64 ((p1).length : Int)), (24, .int .i64 t24__s24_l11), (29, .slice a14 (x13).length c14), (30, .int .i64 ((x13).length : Int)), (31, .int .i64 t31__s31_l17), (81, .bool true)] ⟨rfl, rfl, rfl, rfl, rfl, rfl, rfl, rfl, rfl, rfl, rfl, rfl, rfl, trivial⟩ (fun J => ?_)
        refine c_true rfl ?_
        refine c_seq (c_plain ?_)
        refine x_pure 2 [(4, .bool false), (5, .int .i64 0)] _ _ _ (by kernel_rfl) ?_
        refine x_end rfl (k_then ?_)
        refine c_ret ?_
        refine k_then_ret ?_
        refine k_block_ret ?_
        refine k_then_ret ?_
        have hx := some_inj h
        subst hx
        have hy := some_inj hn17
        subst hy
        replace h := h17
        refine k_then_ret ?_
        refine k_block_ret ?_
        refine k_block_ret ?_
        refine k_then_ret ?_
        have hx := some_inj h
        subst hx
        have hy := some_inj hn11
        subst hy
        replace h := h11
        refine k_then_ret ?_
        refine k_block_ret ?_
        refine k_then_ret ?_
        refine r_ret (r_vals [.bool false, .int .i64 0] ⟨rfl, rfl, trivial⟩ ?_)
        have hx := some_inj h
        subst hx
        have hmr : MS w22 [M] := hms.pick [some 2] _ rfl
        have hsu : ∀ x ∈ fl [M], x ∈ fl [[b3], blk a9_l17, M] := pick_sub [some 2] _ rfl
        exact ⟨rfl, hev⟩
      replace h := ite_f hb h
      refine x_pure 2 [(44, .slice a9_l17 (d9_l17).length c8), (45, .int .i64 x19)] _ _ _ (by kernel_rfl) ?_
      obtain ⟨x23, hx23, h⟩ := bind_some h
      obtain ⟨g23, cs23, ha, hr23, hc23, hR⟩ := own_index (Mo := []) tsl57 ho8 hx23
      subst ha
      obtain rfl := hR
      refine x_indexAddr (xv := .slice (some ⟨g23, 0, none⟩) (d9_l17).length c8) (yv := .int .i64 x19) (.pointer (some ⟨g23, (Int.toNat x19) * eBool.n, none⟩)) rfl rfl rfl rfl hr23 ?_
      refine x_load (xv := .pointer (some ⟨g23, (Int.toNat x19) * eBool.n, none⟩)) (.bool x23) rfl rfl rfl (reads_cell0 tcell4 hc23 (fun _ h => by cases h)) ?_
      refine x_pure 2 [(48, .bool x23), (49, .bool x23)] _ _ _ (by kernel_rfl) ?_
      refine x_split 49 x23 rfl (fun hb => ?_) (fun hb => ?_)
      · replace h := ite_t hb h
        refine x_pure 32 [(50, undef), (51, undef), (52, undef), (53, undef), (54, undef), (55, undef), (56, undef), (57, undef), (58, .bool true), (59, .bool true), (60, undef), (61, undef), (62, undef), (63, undef), (64, undef), (65, undef), (66, undef), (67, undef), (68, undef), (69, undef), (70, undef), (71, undef), (72, undef), (73, undef), (74, undef), (75, undef), (76, undef), (77, undef), (78, undef), (79, undef), (80, undef), (81, .bool true)] _ _ _ (by kernel_rfl) ?_
        refine x_end rfl (k_then ?_)
        refine c_norm [(2, .pointer (some ⟨b3, 0, none⟩)), (7, .slice (some ⟨g23, 0, none⟩) (d9_l17).length c8), (8, .int .i64 n_s8_l17), (9, .int .i64 t24__s24_l11), (10, .slice a14 (x13).length c14), (12, .int .i64 x19), (22, .slice a_p1 (p1).length c_p1), (23, .int .i64 ((p1).length : Int)), (24, .int .i64 t24__s24_l11), (29, .slice a14 (x13).length c14), (30, .int .i64 ((x13).length : Int)), (31, .int .i64 t31__s31_l17), (81, .bool true)] ⟨rfl, rfl, rfl, rfl, rfl, rfl, rfl, rfl, rfl, rfl, rfl, rfl, rfl, trivial⟩ (fun J => ?_)
        refine c_true rfl ?_
        refine c_seq (c_plain ?_)
        refine x_pure 2 [(4, .bool false), (5, .int .i64 0)] _ _ _ (by kernel_rfl) ?_
        refine x_end rfl (k_then ?_)
        refine c_ret ?_
        refine k_then_ret ?_
        refine k_block_ret ?_
        refine k_then_ret ?_
        have hx := some_inj h
        subst hx
        have hy := some_inj hn17
        subst hy
        replace h := h17
        refine k_then_ret ?_
        refine k_block_ret ?_
        refine k_block_ret ?_
        refine k_then_ret ?_
        have hx := some_inj h
        subst hx
        have hy := some_inj hn11
        subst hy
        replace h := h11
        refine k_then_ret ?_
        refine k_block_ret ?_
        refine k_then_ret ?_
        refine r_ret (r_vals [.bool false, .int .i64 0] ⟨rfl, rfl, trivial⟩ ?_)
        have hx := some_inj h
        subst hx
        have hmr : MS w22 [M] := hms.pick [some 2] _ rfl
        have hsu : ∀ x ∈ fl [M], x ∈ fl [[b3], blk (some ⟨g23, 0, none⟩), M] := pick_sub [some 2] _ rfl
        exact ⟨rfl, hev⟩
      replace h := ite_f hb h
      refine x_fieldAddr (xv := .pointer (some ⟨b3, 0, none⟩)) (.pointer (some ⟨b3, 0, none⟩)) rfl rfl rfl (reads_field tfld24_0 _ _) ?_
      refine x_load (xv := .pointer (some ⟨b3, 0, none⟩)) (.slice a_p0_0 (p0_0).length c_p0_0) rfl rfl rfl (reads_box tcell22 hb3 nn 0 _ rfl) ?_
      refine x_pure 1 [(52, .int .i64 x19)] _ _ _ (by kernel_rfl) ?_
      obtain ⟨x25, hx25, h⟩ := bind_some h
      obtain ⟨ad25, cs25, hr25, hc25, hR⟩ := reads_index (Mo := []) tsl22 hs_p0_0 hx25
      obtain ⟨_, _, rfl, rfl, ⟨_, _, rfl, rfl, ⟨_, _, rfl, rfl, rfl⟩⟩⟩ := hR
      refine x_indexAddr (xv := .slice a_p0_0 (p0_0).length c_p0_0) (yv := .int .i64 x19) (.pointer (some ad25)) rfl rfl rfl rfl hr25 ?_
      refine x_fieldAddr (xv := .pointer (some ad25)) (.pointer (some (Addr.add ad25 0))) rfl rfl rfl (reads_field tfld26_0 _ _) ?_
      refine x_load (xv := .pointer (some (Addr.add ad25 0))) (.int .i64 x25.1) rfl rfl rfl (reads_cell tcell3 hc25 (fun _ h => by cases h) 0 _ rfl) ?_
      refine x_pure 4 [(56, .int .i64 t24__s24_l11), (57, .bool (x25.1 != t24__s24_l11)), (58, .bool (x25.1 != t24__s24_l11)), (59, .bool (x25.1 != t24__s24_l11))] _ _ _ (by kernel_rfl) ?_
      refine x_split 59 (x25.1 != t24__s24_l11) rfl (fun hb => ?_) (fun hb => ?_)
      · replace h := ite_t hb h
        refine x_pure 22 [(60, undef), (61, undef), (62, undef), (63, undef), (64, undef), (65, undef), (66, undef), (67, undef), (68, undef), (69, undef), (70, undef), (71, undef), (72, undef), (73, undef), (74, undef), (75, undef), (76, undef), (77, undef), (78, undef), (79, undef), (80, undef), (81, .bool true)] _ _ _ (by kernel_rfl) ?_
        refine x_end rfl (k_then ?_)
        refine c_norm [(2, .pointer (some ⟨b3, 0, none⟩)), (7, .slice (some ⟨g23, 0, none⟩) (d9_l17).length c8), (8, .int .i64 n_s8_l17), (9, .int .i64 t24__s24_l11), (10, .slice a14 (x13).length c14), (12, .int .i64 x19), (22, .slice a_p1 (p1).length c_p1), (23, .int .i64 ((p1).length : Int)), (24, .int .i64 t24__s24_l11), (29, .slice a14 (x13).length c14), (30, .int .i64 ((x13).length : Int)), (31, .int .i64 t31__s31_l17), (81, .bool true)] ⟨rfl, rfl, rfl, rfl, rfl, rfl, rfl, rfl, rfl, rfl, rfl, rfl, rfl, trivial⟩ (fun J => ?_)
        refine c_true rfl ?_
        refine c_seq (c_plain ?_)
        refine x_pure 2 [(4, .bool false), (5, .int .i64 0)] _ _ _ (by kernel_rfl) ?_
        refine x_end rfl (k_then ?_)
        refine c_ret ?_
        refine k_then_ret ?_
        refine k_block_ret ?_
        refine k_then_ret ?_
        have hx := some_inj h
        subst hx
        have hy := some_inj hn17
        subst hy
        replace h := h17
        refine k_then_ret ?_
        refine k_block_ret ?_
        refine k_block_ret ?_
        refine k_then_ret ?_
        have hx := some_inj h
        subst hx
        have hy := some_inj hn11
        subst hy
        replace h := h11
        refine k_then_ret ?_
        refine k_block_ret ?_
        refine k_then_ret ?_
        refine r_ret (r_vals [.bool false, .int .i64 0] ⟨rfl, rfl, trivial⟩ ?_)
        have hx := some_inj h
        subst hx
        have hmr : MS w22 [M] := hms.pick [some 2] _ rfl
        have hsu : ∀ x ∈ fl [M], x ∈ fl [[b3], blk (some ⟨g23, 0, none⟩), M] := pick_sub [some 2] _ rfl
        exact ⟨rfl, hev⟩
      replace h := ite_f hb h
      refine x_pure 3 [(60, .int .i64 t31__s31_l17), (61, .bool (decide (t31__s31_l17 > 0))), (62, .bool (decide (t31__s31_l17 > 0)))] _ _ _ (by kernel_rfl) ?_
      refine x_split 62 (decide (t31__s31_l17 > 0)) rfl (fun hb => ?_) (fun hb => ?_)
      · replace h := ite_t hb h
        refine x_fieldAddr (xv := .pointer (some ⟨b3, 0, none⟩)) (.pointer (some ⟨b3, 0, none⟩)) rfl rfl rfl (reads_field tfld24_0 _ _) ?_
        refine x_load (xv := .pointer (some ⟨b3, 0, none⟩)) (.slice a_p0_0 (p0_0).length c_p0_0) rfl rfl rfl (reads_box tcell22 hb3 nn 0 _ rfl) ?_
        refine x_pure 1 [(65, .int .i64 x19)] _ _ _ (by kernel_rfl) ?_
        obtain ⟨x27, hx27, h⟩ := bind_some h
        obtain ⟨ad27, cs27, hr27, hc27, hR⟩ := reads_index (Mo := []) tsl22 hs_p0_0 hx27
        obtain ⟨_, _, rfl, rfl, ⟨_, _, rfl, rfl, ⟨_, _, rfl, rfl, rfl⟩⟩⟩ := hR
        refine x_indexAddr (xv := .slice a_p0_0 (p0_0).length c_p0_0) (yv := .int .i64 x19) (.pointer (some ad27)) rfl rfl rfl rfl hr27 ?_
        refine x_fieldAddr (xv := .pointer (some ad27)) (.pointer (some (Addr.add ad27 1))) rfl rfl rfl (reads_field tfld26_1 _ _) ?_
        refine x_load (xv := .pointer (some (Addr.add ad27 1))) (.int .i64 x27.2.1) rfl rfl rfl (reads_cell tcell3 hc27 (fun _ h => by cases h) 1 _ rfl) ?_
        refine x_fieldAddr (xv := .pointer (some ⟨b3, 0, none⟩)) (.pointer (some ⟨b3, 0, none⟩)) rfl rfl rfl (reads_field tfld24_0 _ _) ?_
        refine x_load (xv := .pointer (some ⟨b3, 0, none⟩)) (.slice a_p0_0 (p0_0).length c_p0_0) rfl rfl rfl (reads_box tcell22 hb3 nn 0 _ rfl) ?_
        refine x_pure 3 [(71, .slice a14 (x13).length c14), (72, .int .i64 t31__s31_l17), (73, .int .i64 (IntKind.i64.wrap (t31__s31_l17 - 1)))] _ _ _ (by kernel_rfl) ?_
        obtain ⟨x29, hx29, h⟩ := bind_some h
        obtain ⟨ad29, cs29, hr29, hc29, hR⟩ := reads_index (Mo := []) tsl27 hs14 hx29
        obtain rfl := hR
        refine x_indexAddr (xv := .slice a14 (x13).length c14) (yv := .int .i64 (IntKind.i64.wrap (t31__s31_l17 - 1))) (.pointer (some ad29)) rfl rfl rfl rfl hr29 ?_
        refine x_load (xv := .pointer (some ad29)) (.int .i64 x29) rfl rfl rfl (reads_cell0 tcell3 hc29 (fun _ h => by cases h)) ?_
        obtain ⟨x31, hx31, h⟩ := bind_some h
        obtain ⟨ad31, cs31, hr31, hc31, hR⟩ := reads_index (Mo := []) tsl22 hs_p0_0 hx31
        obtain ⟨_, _, rfl, rfl, ⟨_, _, rfl, rfl, ⟨_, _, rfl, rfl, rfl⟩⟩⟩ := hR
        refine x_indexAddr (xv := .slice a_p0_0 (p0_0).length c_p0_0) (yv := .int .i64 x29) (.pointer (some ad31)) rfl rfl rfl rfl hr31 ?_
        refine x_fieldAddr (xv := .pointer (some ad31)) (.pointer (some (Addr.add ad31 1))) rfl rfl rfl (reads_field tfld26_1 _ _) ?_
        refine x_load (xv := .pointer (some (Addr.add ad31 1))) (.int .i64 x31.2.1) rfl rfl rfl (reads_cell tcell3 hc31 (fun _ h => by cases h) 1 _ rfl) ?_
        refine x_pure 3 [(79, .bool (decide (x27.2.1 < x31.2.1))), (80, .bool (decide (x27.2.1 < x31.2.1))), (81, .bool (decide (x27.2.1 < x31.2.1)))] _ _ _ (by kernel_rfl) ?_
        refine x_end rfl (k_then ?_)
        refine c_norm [(2, .pointer (some ⟨b3, 0, none⟩)), (7, .slice (some ⟨g23, 0, none⟩) (d9_l17).length c8), (8, .int .i64 n_s8_l17), (9, .int .i64 t24__s24_l11), (10, .slice a14 (x13).length c14), (12, .int .i64 x19), (22, .slice a_p1 (p1).length c_p1), (23, .int .i64 ((p1).length : Int)), (24, .int .i64 t24__s24_l11), (29, .slice a14 (x13).length c14), (30, .int .i64 ((x13).length : Int)), (31, .int .i64 t31__s31_l17), (81, .bool (decide (x27.2.1 < x31.2.1)))] ⟨rfl, rfl, rfl, rfl, rfl, rfl, rfl, rfl, rfl, rfl, rfl, rfl, rfl, trivial⟩ (fun J => ?_)
        refine c_cond (decide (x27.2.1 < x31.2.1)) rfl (fun hb => ?_) (fun hb => ?_)
        · replace h := ite_t hb h
          refine c_seq (c_plain ?_)
          refine x_pure 2 [(4, .bool false), (5, .int .i64 0)] _ _ _ (by kernel_rfl) ?_
          refine x_end rfl (k_then ?_)
          refine c_ret ?_
          refine k_then_ret ?_
          refine k_block_ret ?_
          refine k_then_ret ?_
          have hx := some_inj h
          subst hx
          have hy := some_inj hn17
          subst hy
          replace h := h17
          refine k_then_ret ?_
          refine k_block_ret ?_
          refine k_block_ret ?_
          refine k_then_ret ?_
          have hx := some_inj h
          subst hx
          have hy := some_inj hn11
          subst hy
          replace h := h11
          refine k_then_ret ?_
          refine k_block_ret ?_
          refine k_then_ret ?_
          refine r_ret (r_vals [.bool false, .int .i64 0] ⟨rfl, rfl, trivial⟩ ?_)
          have hx := some_inj h
          subst hx
          have hmr : MS w22 [M] := hms.pick [some 2] _ rfl
          have hsu : ∀ x ∈ fl [M], x ∈ fl [[b3], blk (some ⟨g23, 0, none⟩), M] := pick_sub [some 2] _ rfl
          exact ⟨rfl, hev⟩
        replace h := ite_f hb h
        refine c_skip ?_
        refine k_then ?_
        refine c_seq (c_plain ?_)
        refine x_pure 2 [(82, .slice (some ⟨g23, 0, none⟩) (d9_l17).length c8), (83, .int .i64 x19)] _ _ _ (by kernel_rfl) ?_
        obtain ⟨x33, hx33, h⟩ := bind_some h
        obtain ⟨g33, cs33, ha, hr33, hc33, hR⟩ := own_index (Mo := []) tsl57 ho8 hx33
        have hg : g23 = g33 := by cases ha; rfl
        subst hg
        obtain rfl := hR
        refine x_indexAddr (xv := .slice (some ⟨g23, 0, none⟩) (d9_l17).length c8) (yv := .int .i64 x19) (.pointer (some ⟨g23, (Int.toNat x19) * eBool.n, none⟩)) rfl rfl rfl rfl hr33 ?_
        obtain ⟨w35, hr35, he35, ho35⟩ := own_store (y := true) 0 (.bool true) tcell4 ho8 (mem_flat 1 rfl _ (List.mem_singleton.2 rfl)) hx33 rfl rfl (fun _ _ _ hR => set_bool hR)
        refine x_store w35 (xv := .pointer (some ⟨g23, (Int.toNat x19) * eBool.n, none⟩)) (yv := .bool true) rfl rfl rfl rfl hr35 ?_
        refine ⟨.inl rfl, ?_⟩
        have hst := Stp.ev' (ls := [[b3], blk (some ⟨g23, 0, none⟩), M]) he35 (mem_flat 1 rfl)
        replace hb3 := he35.box hb3 (hms.apart 0 1 rfl rfl rfl _ (List.mem_singleton.2 rfl))
        replace hs_p0_0 := hs_p0_0.step hst
        replace hs14 := hs14.step hst
        replace hs_p1 := hs_p1.step hst
        replace hms := hms.ev he35
        replace hev := hev.then he35 (fun b hb => .inr (hfr.at 1 rfl b hb))
        replace ho8 := ho35
        have hsl : (Value.slice (some ⟨g23, 0, none⟩) (d9_l17).length c8) = (Value.slice (some ⟨g23, 0, none⟩) ((d9_l17.set (Int.toNat x19) true)).length c8) := by first | (rw [List.length_set]; done) | simp only [List.length_set]
        try rw [hsl]
        clear hsl
        refine x_end rfl (k_then ?_)
        refine c_plain ?_
        refine x_pure 3 [(85, .int .i64 n_s8_l17), (86, .int .i64 (IntKind.i64.wrap (n_s8_l17 + 1))), (8, .int .i64 (IntKind.i64.wrap (n_s8_l17 + 1)))] _ _ _ (by kernel_rfl) ?_
        refine x_end rfl ?_
        refine k_block ?_
        refine k_then ?_
        refine c_plain ?_
        refine x_pure 2 [(87, .int .i64 (IntKind.i64.wrap (t31__s31_l17 + 1))), (31, .int .i64 (IntKind.i64.wrap (t31__s31_l17 + 1)))] _ _ _ (by kernel_rfl) ?_
        refine x_end rfl ?_
        have hx := some_inj h
        subst hx
        exact k_then ⟨(m17, (d9_l17.set (Int.toNat x19) true), IntKind.i64.wrap (n_s8_l17 + 1), IntKind.i64.wrap (t31__s31_l17 + 1), (some ⟨g23, 0, none⟩)), ⟨rfl, rfl, rfl, rfl, rfl, rfl, rfl, rfl, rfl, rfl, rfl, trivial⟩, ⟨hn17, hev, hms, hfr, hs_p0_0, hb3, ho8, hs14, hs_p1⟩, Nat.lt_succ_self _⟩
      replace h := ite_f hb h
      refine x_pure 19 [(63, undef), (64, undef), (65, undef), (66, undef), (67, undef), (68, undef), (69, undef), (70, undef), (71, undef), (72, undef), (73, undef), (74, undef), (75, undef), (76, undef), (77, undef), (78, undef), (79, undef), (80, .bool false), (81, .bool false)] _ _ _ (by kernel_rfl) ?_
      refine x_end rfl (k_then ?_)
      refine c_norm [(2, .pointer (some ⟨b3, 0, none⟩)), (7, .slice (some ⟨g23, 0, none⟩) (d9_l17).length c8), (8, .int .i64 n_s8_l17), (9, .int .i64 t24__s24_l11), (10, .slice a14 (x13).length c14), (12, .int .i64 x19), (22, .slice a_p1 (p1).length c_p1), (23, .int .i64 ((p1).length : Int)), (24, .int .i64 t24__s24_l11), (29, .slice a14 (x13).length c14), (30, .int .i64 ((x13).length : Int)), (31, .int .i64 t31__s31_l17), (81, .bool false)] ⟨rfl, rfl, rfl, rfl, rfl, rfl, rfl, rfl, rfl, rfl, rfl, rfl, rfl, trivial⟩ (fun J => ?_)
      refine c_false rfl ?_
      refine c_skip ?_
      refine k_then ?_
      refine c_seq (c_plain ?_)
      refine x_pure 2 [(82, .slice (some ⟨g23, 0, none⟩) (d9_l17).length c8), (83, .int .i64 x19)] _ _ _ (by kernel_rfl) ?_
      obtain ⟨x36, hx36, h⟩ := bind_some h
      obtain ⟨g36, cs36, ha, hr36, hc36, hR⟩ := own_index (Mo := []) tsl57 ho8 hx36
      have hg : g23 = g36 := by cases ha; rfl
      subst hg
      obtain rfl := hR
      refine x_indexAddr (xv := .slice (some ⟨g23, 0, none⟩) (d9_l17).length c8) (yv := .int .i64 x19) (.pointer (some ⟨g23, (Int.toNat x19) * eBool.n, none⟩)) rfl rfl rfl rfl hr36 ?_
      obtain ⟨w38, hr38, he38, ho38⟩ := own_store (y := true) 0 (.bool true) tcell4 ho8 (mem_flat 1 rfl _ (List.mem_singleton.2 rfl)) hx36 rfl rfl (fun _ _ _ hR => set_bool hR)
      refine x_store w38 (xv := .pointer (some ⟨g23, (Int.toNat x19) * eBool.n, none⟩)) (yv := .bool true) rfl rfl rfl rfl hr38 ?_
      refine ⟨.inl rfl, ?_⟩
      have hst := Stp.ev' (ls := [[b3], blk (some ⟨g23, 0, none⟩), M]) he38 (mem_flat 1 rfl)
      replace hb3 := he38.box hb3 (hms.apart 0 1 rfl rfl rfl _ (List.mem_singleton.2 rfl))
      replace hs_p0_0 := hs_p0_0.step hst
      replace hs14 := hs14.step hst
      replace hs_p1 := hs_p1.step hst
      replace hms := hms.ev he38
      replace hev := hev.then he38 (fun b hb => .inr (hfr.at 1 rfl b hb))
      replace ho8 := ho38
      have hsl : (Value.slice (some ⟨g23, 0, none⟩) (d9_l17).length c8) = (Value.slice (some ⟨g23, 0, none⟩) ((d9_l17.set (Int.toNat x19) true)).length c8) := by first | (rw [List.length_set]; done) | simp only [List.length_set]
      try rw [hsl]
      clear hsl
      refine x_end rfl (k_then ?_)
      refine c_plain ?_
      refine x_pure 3 [(85, .int .i64 n_s8_l17), (86, .int .i64 (IntKind.i64.wrap (n_s8_l17 + 1))), (8, .int .i64 (IntKind.i64.wrap (n_s8_l17 + 1)))] _ _ _ (by kernel_rfl) ?_
      refine x_end rfl ?_
      refine k_block ?_
      refine k_then ?_
      refine c_plain ?_
      refine x_pure 2 [(87, .int .i64 (IntKind.i64.wrap (t31__s31_l17 + 1))), (31, .int .i64 (IntKind.i64.wrap (t31__s31_l17 + 1)))] _ _ _ (by kernel_rfl) ?_
      refine x_end rfl ?_
      have hx := some_inj h
      subst hx
      exact k_then ⟨(m17, (d9_l17.set (Int.toNat x19) true), IntKind.i64.wrap (n_s8_l17 + 1), IntKind.i64.wrap (t31__s31_l17 + 1), (some ⟨g23, 0, none⟩)), ⟨rfl, rfl, rfl, rfl, rfl, rfl, rfl, rfl, rfl, rfl, rfl, trivial⟩, ⟨hn17, hev, hms, hfr, hs_p0_0, hb3, ho8, hs14, hs_p1⟩, Nat.lt_succ_self _⟩
    replace h := ite_f hb h
    refine c_exit ?_
    refine k_then_exit ?_
    have hx := some_inj h
    subst hx
    have hy := some_inj hn17
    subst hy
    replace h := h17
    refine k_then_exit ?_
    refine k_block_in ?_
    refine k_block ?_
    refine k_then ?_
    refine c_norm [(2, .pointer (some ⟨b3, 0, none⟩)), (7, .slice a9_l17 (d9_l17).length c8), (8, .int .i64 n_s8_l17), (22, .slice a_p1 (p1).length c_p1), (23, .int .i64 ((p1).length : Int)), (24, .int .i64 t24__s24_l11)] ⟨rfl, rfl, rfl, rfl, rfl, rfl, trivial⟩ (fun J => ?_)
    refine c_plain ?_
    refine x_pure 2 [(88, .int .i64 (IntKind.i64.wrap (t24__s24_l11 + 1))), (24, .int .i64 (IntKind.i64.wrap (t24__s24_l11 + 1)))] _ _ _ (by kernel_rfl) ?_
    refine x_end rfl ?_
    have hx := some_inj h
    subst hx
    exact k_then ⟨(m11, d9_l17, n_s8_l17, IntKind.i64.wrap (t24__s24_l11 + 1), a9_l17), ⟨rfl, rfl, rfl, rfl, rfl, rfl, trivial⟩, ⟨hn11, hev, hms, hfr, hs_p0_0, hb3, ho8, hs_p1⟩, Nat.lt_succ_self _⟩
  replace h := ite_f hb h
  refine c_exit ?_
  refine k_then_exit ?_
  have hx := some_inj h
  subst hx
  have hy := some_inj hn11
  subst hy
  replace h := h11
  refine k_then_exit ?_
  refine k_block_in ?_
  refine k_then ?_
  refine c_norm [(2, .pointer (some ⟨b3, 0, none⟩)), (8, .int .i64 n_s8_l11)] ⟨rfl, rfl, trivial⟩ (fun J => ?_)
  refine c_seq (c_plain ?_)
  refine x_pure 1 [(89, .int .i64 n_s8_l11)] _ _ _ (by kernel_rfl) ?_
  refine x_fieldAddr (xv := .pointer (some ⟨b3, 0, none⟩)) (.pointer (some ⟨b3, 0, none⟩)) rfl rfl rfl (reads_field tfld24_0 _ _) ?_
  refine x_load (xv := .pointer (some ⟨b3, 0, none⟩)) (.slice a_p0_0 (p0_0).length c_p0_0) rfl rfl rfl (reads_box tcell22 hb3 nn 0 _ rfl) ?_
  refine x_len (vs := [.slice a_p0_0 (p0_0).length c_p0_0]) (.int .i64 ((p0_0).length : Int)) rfl rfl rfl (reads_len tsl22 _ _ _ _ _) ?_
  refine x_pure 3 [(93, .bool (n_s8_l11 == ((p0_0).length : Int))), (4, .bool (n_s8_l11 == ((p0_0).length : Int))), (5, .int .i64 0)] _ _ _ (by kernel_rfl) ?_
  refine x_end rfl (k_then ?_)
  refine c_ret ?_
  refine r_ret (r_vals [.bool (n_s8_l11 == ((p0_0).length : Int)), .int .i64 0] ⟨rfl, rfl, trivial⟩ ?_)
  have hx := some_inj h
  subst hx
  have hmr : MS wl11 [M] := hms.pick [some 2] _ rfl
  have hsu : ∀ x ∈ fl [M], x ∈ fl [[b3], blk a9_l11, M] := pick_sub [some 2] _ rfl
  exact ⟨rfl, hev⟩
def job_Relation (p0_0 : List (Int × Int × Int × Int)) (p0_1 : Int) (p1 : Int) (p2 : Int) : Option (Int × Int) :=
((job_Valid p0_0 p0_1).bind fun x5 =>
(if (x5 != 0) = true then
some (0, x5)
else
((job_in p1 0 (IntKind.i64.wrap (((p0_0).length : Int) - 1))).bind fun x8 =>
(if (!x8) = true then
some (0, 2)
else
((job_in p2 0 (IntKind.i64.wrap (((p0_0).length : Int) - 1))).bind fun x10 =>
(if (!x10) = true then
some (0, 2)
else
((job_relation p0_0 p0_1 p1 p2).bind fun x12 =>
some (x12, 0))))))))

theorem job_Relation_w (a_p0_0 : Option Addr) (c_p0_0 : Nat) (p0_0 : List (Int × Int × Int × Int)) (p0_1 : Int) (p1 : Int) (p2 : Int) (r : Int × Int) (w : World) (M : List Nat) (hms : MS w [M]) (hs_p0_0 : SlR (eProd (eInt .i64) (eProd (eInt .i64) (eProd (eInt .i64) (eInt .i64)))) w (fl [M]) a_p0_0 c_p0_0 p0_0) (h : job_Relation p0_0 p0_1 p1 p2 = some r) : CallVC Try.prog 23 [.agg #[.slice a_p0_0 (p0_0).length c_p0_0, .int .i64 p0_1], .int .i64 p1, .int .i64 p2] w fun v w' => v = .tuple #[.int .i64 r.1, .int .i64 r.2] ∧ Ev [] w w' := by
  refine calls_vc hmx Try.func23 (by kernel_rfl) rfl (rs := [.tmp 6, .tmp 7]) rfl (by kernel_rfl) (args := [.agg #[.slice a_p0_0 (p0_0).length c_p0_0, .int .i64 p0_1], .int .i64 p1, .int .i64 p2]) rfl ?_
  have hev : Ev [] w w := Ev.refl _ _
  have hfr : FR w.heap.size [] := FR.nil _
  refine c_seq (c_plain ?_)
  refine x_box (xv := .agg #[.slice a_p0_0 (p0_0).length c_p0_0, .int .i64 p0_1]) rfl rfl rfl (fun b2 w2 hq2 hb2 he2 hz2 => ?_)
  replace hb2 : w2.heap[b2]? = some (.cells #[.slice a_p0_0 (p0_0).length c_p0_0, .int .i64 p0_1] 24 (0, 0)) := hb2
  refine ⟨.inl rfl, ?_⟩
  have hst := Stp.box (ls := [M]) he2 hq2
  replace hs_p0_0 := hs_p0_0.step hst
  replace hms := hms.box he2 hq2 hb2
  replace hfr := hfr.box hev.size hq2
  replace hev := hev.ext he2
  refine x_pure 2 [(6, .int .i64 0), (7, .int .i64 0)] _ _ _ (by kernel_rfl) ?_
  refine x_end rfl (k_then ?_)
  refine c_seq ?_
  refine c_seq (c_plain ?_)
  refine x_load (xv := .pointer (some ⟨b2, 0, none⟩)) (.agg #[.slice a_p0_0 (p0_0).length c_p0_0, .int .i64 p0_1]) rfl rfl rfl (reads_boxagg 0 [.slice a_p0_0 (p0_0).length c_p0_0, .int .i64 p0_1] tagg24 hb2 nn rfl) ?_
  obtain ⟨x5, hx, h⟩ := bind_some h
  have hpk : MS w2 ([] ++ [[b2], M]) := hms.pick [some 0, some 1] _ rfl
  have hsb0 : ∀ x ∈ fl ([] ++ [[b2], M]), x ∈ fl [[b2], M] := pick_sub [some 0, some 1] _ rfl
  have hsb : ∀ x ∈ fl ([] ++ [(fl [[b2], M])]), x ∈ fl [[b2], M] := fun x hx => hsb0 x (fl_unfold x hx)
  have hcall := job_Valid_w a_p0_0 c_p0_0 p0_0 p0_1 _ w2 (fl [[b2], M]) (MS.fold (P := []) hpk) (hs_p0_0.sub hsb) hx
  refine x_call 11 #[] #[] [.agg #[.slice a_p0_0 (p0_0).length c_p0_0, .int .i64 p0_1]] _ rfl rfl rfl rfl hcall ?_
  rintro v w6 ⟨rfl, he6⟩
  clear hcall hx
  refine ⟨.inl rfl, ?_⟩
  have hst := Stp.ext (ls := [[b2], M]) he6
  replace hs_p0_0 := hs_p0_0.step hst
  replace hb2 := he6.box hb2 nn
  replace hms := hms.ev he6
  replace hev := hev.ext he6
  clear hpk hsb hsb0
  refine x_pure 1 [(8, .int .i64 x5)] _ _ _ (by kernel_rfl) ?_
  refine x_end rfl (k_then ?_)
  refine c_seq (c_plain ?_)
  refine x_pure 2 [(11, .int .i64 x5), (12, .bool (x5 != 0))] _ _ _ (by kernel_rfl) ?_
  refine x_end rfl (k_then ?_)
  refine c_cond (x5 != 0) rfl (fun hb => ?_) (fun hb => ?_)
  · replace h := ite_t hb h
    refine c_seq (c_plain ?_)
    refine x_pure 3 [(13, .int .i64 x5), (6, .int .i64 0), (7, .int .i64 x5)] _ _ _ (by kernel_rfl) ?_
    refine x_end rfl (k_then ?_)
    refine c_ret ?_
    refine k_then_ret ?_
    refine r_ret (r_vals [.int .i64 0, .int .i64 x5] ⟨rfl, rfl, trivial⟩ ?_)
    have hx := some_inj h
    subst hx
    have hmr : MS w6 [M] := hms.pick [some 1] _ rfl
    have hsu : ∀ x ∈ fl [M], x ∈ fl [[b2], M] := pick_sub [some 1] _ rfl
    exact ⟨rfl, hev⟩
  replace h := ite_f hb h
  refine c_skip ?_
  refine k_then ?_
  refine c_seq ?_
  refine c_seq (c_plain ?_)
  refine x_pure 1 [(14, .int .i64 p1)] _ _ _ (by kernel_rfl) ?_
  refine x_fieldAddr (xv := .pointer (some ⟨b2, 0, none⟩)) (.pointer (some ⟨b2, 0, none⟩)) rfl rfl rfl (reads_field tfld24_0 _ _) ?_
  refine x_load (xv := .pointer (some ⟨b2, 0, none⟩)) (.slice a_p0_0 (p0_0).length c_p0_0) rfl rfl rfl (reads_box tcell22 hb2 nn 0 _ rfl) ?_
  refine x_len (vs := [.slice a_p0_0 (p0_0).length c_p0_0]) (.int .i64 ((p0_0).length : Int)) rfl rfl rfl (reads_len tsl22 _ _ _ _ _) ?_
  refine x_pure 1 [(18, .int .i64 (IntKind.i64.wrap (((p0_0).length : Int) - 1)))] _ _ _ (by kernel_rfl) ?_
  obtain ⟨x8, hx, h⟩ := bind_some h
  have hcall := job_in_w p1 0 (IntKind.i64.wrap (((p0_0).length : Int) - 1)) _ w6 hx
  refine x_call 26 #[] #[] [.int .i64 p1, .int .i64 0, .int .i64 (IntKind.i64.wrap (((p0_0).length : Int) - 1))] _ rfl rfl rfl rfl hcall ?_
  rintro v w9 ⟨rfl, he9⟩
  clear hcall hx
  refine ⟨.inl rfl, ?_⟩
  have hst := Stp.ext (ls := [[b2], M]) he9
  replace hs_p0_0 := hs_p0_0.step hst
  replace hb2 := he9.box hb2 nn
  replace hms := hms.ev he9
  replace hev := hev.ext he9
  refine x_pure 2 [(20, .bool (!x8)), (21, .bool (!x8))] _ _ _ (by kernel_rfl) ?_
  refine x_split 21 (!x8) rfl (fun hb => ?_) (fun hb => ?_)
  · replace h := ite_t hb h
    refine x_pure 8 [(22, undef), (23, undef), (24, undef), (25, undef), (26, undef), (27, undef), (28, undef), (29, .bool true)] _ _ _ (by kernel_rfl) ?_
    refine x_end rfl (k_then ?_)
    refine c_norm [(1, .int .i64 p1), (2, .int .i64 p2), (3, .pointer (some ⟨b2, 0, none⟩)), (29, .bool true)] ⟨rfl, rfl, rfl, rfl, trivial⟩ (fun J => ?_)
    refine c_true rfl ?_
    refine c_seq (c_plain ?_)
    refine x_pure 2 [(6, .int .i64 0), (7, .int .i64 2)] _ _ _ (by kernel_rfl) ?_
    refine x_end rfl (k_then ?_)
    refine c_ret ?_
    refine k_then_ret ?_
    refine r_ret (r_vals [.int .i64 0, .int .i64 2] ⟨rfl, rfl, trivial⟩ ?_)
    have hx := some_inj h
    subst hx
    have hmr : MS w9 [M] := hms.pick [some 1] _ rfl
    have hsu : ∀ x ∈ fl [M], x ∈ fl [[b2], M] := pick_sub [some 1] _ rfl
    exact ⟨rfl, hev⟩
  replace h := ite_f hb h
  refine x_pure 1 [(22, .int .i64 p2)] _ _ _ (by kernel_rfl) ?_
  refine x_fieldAddr (xv := .pointer (some ⟨b2, 0, none⟩)) (.pointer (some ⟨b2, 0, none⟩)) rfl rfl rfl (reads_field tfld24_0 _ _) ?_
  refine x_load (xv := .pointer (some ⟨b2, 0, none⟩)) (.slice a_p0_0 (p0_0).length c_p0_0) rfl rfl rfl (reads_box tcell22 hb2 nn 0 _ rfl) ?_
  refine x_len (vs := [.slice a_p0_0 (p0_0).length c_p0_0]) (.int .i64 ((p0_0).length : Int)) rfl rfl rfl (reads_len tsl22 _ _ _ _ _) ?_
  refine x_pure 1 [(26, .int .i64 (IntKind.i64.wrap (((p0_0).length : Int) - 1)))] _ _ _ (by kernel_rfl) ?_
  obtain ⟨x10, hx, h⟩ := bind_some h
  have hcall := job_in_w p2 0 (IntKind.i64.wrap (((p0_0).length : Int) - 1)) _ w9 hx
  refine x_call 26 #[] #[] [.int .i64 p2, .int .i64 0, .int .i64 (IntKind.i64.wrap (((p0_0).length : Int) - 1))] _ rfl rfl rfl rfl hcall ?_
  rintro v w11 ⟨rfl, he11⟩
  clear hcall hx
  refine ⟨.inl rfl, ?_⟩
  have hst := Stp.ext (ls := [[b2], M]) he11
  replace hs_p0_0 := hs_p0_0.step hst
  replace hb2 := he11.box hb2 nn
  replace hms := hms.ev he11
  replace hev := hev.ext he11
  refine x_pure 2 [(28, .bool (!x10)), (29, .bool (!x10))] _ _ _ (by kernel_rfl) ?_
  refine x_end rfl (k_then ?_)
  refine c_norm [(1, .int .i64 p1), (2, .int .i64 p2), (3, .pointer (some ⟨b2, 0, none⟩)), (29, .bool (!x10))] ⟨rfl, rfl, rfl, rfl, trivial⟩ (fun J => ?_)
  refine c_cond (!x10) rfl (fun hb => ?_) (fun hb => ?_)
  · replace h := ite_t hb h
    refine c_seq (c_plain ?_)
    refine x_pure 2 [(6, .int .i64 0), (7, .int .i64 2)] _ _ _ (by kernel_rfl) ?_
    refine x_end rfl (k_then ?_)
    refine c_ret ?_
    refine k_then_ret ?_
    refine r_ret (r_vals [.int .i64 0, .int .i64 2] ⟨rfl, rfl, trivial⟩ ?_)
    have hx := some_inj h
    subst hx
    have hmr : MS w11 [M] := hms.pick [some 1] _ rfl
    have hsu : ∀ x ∈ fl [M], x ∈ fl [[b2], M] := pick_sub [some 1] _ rfl
    exact ⟨rfl, hev⟩
  replace h := ite_f hb h
  refine c_skip ?_
  refine k_then ?_
  refine c_seq (c_plain ?_)
  refine x_load (xv := .pointer (some ⟨b2, 0, none⟩)) (.agg #[.slice a_p0_0 (p0_0).length c_p0_0, .int .i64 p0_1]) rfl rfl rfl (reads_boxagg 0 [.slice a_p0_0 (p0_0).length c_p0_0, .int .i64 p0_1] tagg24 hb2 nn rfl) ?_
  refine x_pure 2 [(31, .int .i64 p1), (32, .int .i64 p2)] _ _ _ (by kernel_rfl) ?_
  obtain ⟨x12, hx, h⟩ := bind_some h
  have hpk : MS w11 ([] ++ [[b2], M]) := hms.pick [some 0, some 1] _ rfl
  have hsb0 : ∀ x ∈ fl ([] ++ [[b2], M]), x ∈ fl [[b2], M] := pick_sub [some 0, some 1] _ rfl
  have hsb : ∀ x ∈ fl ([] ++ [(fl [[b2], M])]), x ∈ fl [[b2], M] := fun x hx => hsb0 x (fl_unfold x hx)
  have hcall := job_relation_w a_p0_0 c_p0_0 p0_0 p0_1 p1 p2 _ w11 (fl [[b2], M]) (MS.fold (P := []) hpk) (hs_p0_0.sub hsb) hx
  refine x_call 36 #[] #[] [.agg #[.slice a_p0_0 (p0_0).length c_p0_0, .int .i64 p0_1], .int .i64 p1, .int .i64 p2] _ rfl rfl rfl rfl hcall ?_
  rintro v w13 ⟨rfl, he13⟩
  clear hcall hx
  refine ⟨.inl rfl, ?_⟩
  have hst := Stp.ext (ls := [[b2], M]) he13
  replace hs_p0_0 := hs_p0_0.step hst
  replace hb2 := he13.box hb2 nn
  replace hms := hms.ev he13
  replace hev := hev.ext he13
  clear hpk hsb hsb0
  refine x_pure 2 [(6, .int .i64 x12), (7, .int .i64 0)] _ _ _ (by kernel_rfl) ?_
  refine x_end rfl (k_then ?_)
  refine c_ret ?_
  refine r_ret (r_vals [.int .i64 x12, .int .i64 0] ⟨rfl, rfl, trivial⟩ ?_)
  have hx := some_inj h
  subst hx
  have hmr : MS w13 [M] := hms.pick [some 1] _ rfl
  have hsu : ∀ x ∈ fl [M], x ∈ fl [[b2], M] := pick_sub [some 1] _ rfl
  exact ⟨rfl, hev⟩
end Go.Proofs.Ytacimonplnlmgaa
