/- Walks, printed by program: each function returns what the partial function of the same name returns. Conditions: those of each theorem. -/
import Derived.Test.YtgdaanhiagoonaaGT
set_option linter.unusedVariables false
set_option linter.unusedSimpArgs false
set_option maxRecDepth 4000
namespace Go.Proofs.Ytgdaanhiagoonaa
open Go Go.V Go.Proofs
def job_in (p0 : Int) (p1 : Int) (p2 : Int) : Option Bool :=
(if (decide (p0 ≥ p1)) = true then
some (decide (p0 ≤ p2))
else
some false)

theorem job_in_w (p0 : Int) (p1 : Int) (p2 : Int) (r : Bool) (w : World) (h : job_in p0 p1 p2 = some r) : CallVC Try.prog 56 [.int .i64 p0, .int .i64 p1, .int .i64 p2] w fun v w' => v = .bool r ∧ Ev [] w w' := by
  refine calls_vc hmx Try.func56 (by kernel_rfl) rfl (rs := [.tmp 6]) rfl (by kernel_rfl) (args := [.int .i64 p0, .int .i64 p1, .int .i64 p2]) rfl ?_
  have hev : Ev [] w w := Ev.refl _ _
  have hms : MS w [[]] := ⟨List.pairwise_singleton _ _, fun l hl b hb => by simp only [List.mem_singleton] at hl; subst hl; cases hb⟩
  have hfr : FR w.heap.size [] := FR.nil _
  refine c_seq (c_plain ?_)
  refine x_pure 1 [(6, .bool false)] _ _ _ (by kernel_rfl) ?_
  refine x_end rfl (k_then ?_)
  refine c_seq (c_plain ?_)
  refine x_pure 4 [(7, .int .i64 p0), (8, .int .i64 p1), (9, .bool (decide (p0 ≥ p1))), (10, .bool (decide (p0 ≥ p1)))] _ _ _ (by kernel_rfl) ?_
  refine x_split 10 (decide (p0 ≥ p1)) rfl (fun hb => ?_) (fun hb => ?_)
  · replace h := ite_t hb h
    refine x_pure 5 [(11, .int .i64 p0), (12, .int .i64 p2), (13, .bool (decide (p0 ≤ p2))), (14, .bool (decide (p0 ≤ p2))), (6, .bool (decide (p0 ≤ p2)))] _ _ _ (by kernel_rfl) ?_
    refine x_end rfl (k_then ?_)
    refine c_ret ?_
    refine r_ret (r_vals [.bool (decide (p0 ≤ p2))] ⟨rfl, trivial⟩ ?_)
    have hx := some_inj h
    subst hx
    exact ⟨rfl, hev⟩
  replace h := ite_f hb h
  refine x_pure 5 [(11, undef), (12, undef), (13, undef), (14, .bool false), (6, .bool false)] _ _ _ (by kernel_rfl) ?_
  refine x_end rfl (k_then ?_)
  refine c_ret ?_
  refine r_ret (r_vals [.bool false] ⟨rfl, trivial⟩ ?_)
  have hx := some_inj h
  subst hx
  exact ⟨rfl, hev⟩
def job_Valid_L8 (p0_0 : List (Int × Int × Int × Int)) (s : Int) : Option (Step Int (Int ⊕ Unit)) :=
match s with
| t16__s16_l8 =>
(if (decide (t16__s16_l8 < ((p0_0).length : Int))) = true then
((idx p0_0 t16__s16_l8).bind fun x10 =>
((job_in x10.1 0 15).bind fun x16 =>
(if (!x16) = true then
some (.done (.inl 2))
else
((job_in x10.2.1 0 31).bind fun x18 =>
(if (!x18) = true then
some (.done (.inl 2))
else
((job_in x10.2.2.1 0 12).bind fun x20 =>
(if (!x20) = true then
some (.done (.inl 2))
else
((job_in x10.2.2.2 1 400).bind fun x22 =>
(if (!x22) = true then
some (.done (.inl 2))
else
(if (decide (t16__s16_l8 > 0)) = true then
((idx p0_0 (IntKind.i64.wrap (t16__s16_l8 - 1))).bind fun x24 =>
(if (decide (x10.2.2.1 < x24.2.2.1)) = true then
some (.done (.inl 12))
else
some (.next (IntKind.i64.wrap (t16__s16_l8 + 1)))))
else
some (.next (IntKind.i64.wrap (t16__s16_l8 + 1)))))))))))))
else
some (.done (.inr ())))

def job_Valid (p0_0 : List (Int × Int × Int × Int)) (p0_1 : Int) : Option Int :=
(if (decide (((p0_0).length : Int) > 96)) = true then
some 3
else
((job_in p0_1 0 12).bind fun x6 =>
(if (!x6) = true then
some 2
else
((loop (job_Valid_L8 p0_0) 0).bind fun d => match d with
| (.inl t2__s2_x800) => some t2__s2_x800
| (.inr _) => some 0))))

theorem job_Valid_w (a_p0_0 : Option Addr) (c_p0_0 : Nat) (p0_0 : List (Int × Int × Int × Int)) (p0_1 : Int) (r : Int) (w : World) (M : List Nat) (hms : MS w [M]) (hs_p0_0 : SlR (eProd (eInt .i64) (eProd (eInt .i64) (eProd (eInt .i64) (eInt .i64)))) w (fl [M]) a_p0_0 c_p0_0 p0_0) (h : job_Valid p0_0 p0_1 = some r) : CallVC Try.prog 36 [.agg #[.slice a_p0_0 (p0_0).length c_p0_0, .int .i64 p0_1]] w fun v w' => v = .int .i64 r ∧ Ev [] w w' := by
  refine calls_vc hmx Try.func36 (by kernel_rfl) rfl (rs := [.tmp 2]) rfl (by kernel_rfl) (args := [.agg #[.slice a_p0_0 (p0_0).length c_p0_0, .int .i64 p0_1]]) rfl ?_
  have hev : Ev [] w w := Ev.refl _ _
  have hfr : FR w.heap.size [] := FR.nil _
  refine c_seq (c_plain ?_)
  refine x_box (xv := .agg #[.slice a_p0_0 (p0_0).length c_p0_0, .int .i64 p0_1]) rfl rfl rfl (fun b2 w2 hq2 hb2 he2 hz2 => ?_)
  replace hb2 : w2.heap[b2]? = some (.cells #[.slice a_p0_0 (p0_0).length c_p0_0, .int .i64 p0_1] 24 (0, 0)) := hb2
  refine ⟨.inl rfl, ?_⟩
  have hst := Stp.box (ls := [M]) he2 hq2
  replace hs_p0_0 := hs_p0_0.step hst
  replace hms := hms.box he2 hq2 hb2
  replace hfr := hfr.box hev.size hq2
  replace hev := hev.ext he2
  refine x_pure 1 [(2, .int .i64 0)] _ _ _ (by kernel_rfl) ?_
  refine x_end rfl (k_then ?_)
  refine c_seq ?_
  refine c_seq (c_plain ?_)
  refine x_fieldAddr (xv := .pointer (some ⟨b2, 0, none⟩)) (.pointer (some ⟨b2, 0, none⟩)) rfl rfl rfl (reads_field tfld24_0 _ _) ?_
  refine x_load (xv := .pointer (some ⟨b2, 0, none⟩)) (.slice a_p0_0 (p0_0).length c_p0_0) rfl rfl rfl (reads_box tcell22 hb2 nn 0 _ rfl) ?_
  refine x_len (vs := [.slice a_p0_0 (p0_0).length c_p0_0]) (.int .i64 ((p0_0).length : Int)) rfl rfl rfl (reads_len tsl22 _ _ _ _ _) ?_
  refine x_pure 1 [(8, .bool (decide (((p0_0).length : Int) > 96)))] _ _ _ (by kernel_rfl) ?_
  refine x_end rfl (k_then ?_)
  refine c_cond (decide (((p0_0).length : Int) > 96)) rfl (fun hb => ?_) (fun hb => ?_)
  · replace h := ite_t hb h
    refine c_seq (c_plain ?_)
    refine x_pure 1 [(2, .int .i64 3)] _ _ _ (by kernel_rfl) ?_
    refine x_end rfl (k_then ?_)
    refine c_ret ?_
    refine k_then_ret ?_
    refine r_ret (r_vals [.int .i64 3] ⟨rfl, trivial⟩ ?_)
    have hx := some_inj h
    subst hx
    have hmr : MS w2 [M] := hms.pick [some 1] _ rfl
    have hsu : ∀ x ∈ fl [M], x ∈ fl [[b2], M] := pick_sub [some 1] _ rfl
    exact ⟨rfl, hev⟩
  replace h := ite_f hb h
  refine c_skip ?_
  refine k_then ?_
  refine c_seq ?_
  refine c_seq (c_plain ?_)
  refine x_fieldAddr (xv := .pointer (some ⟨b2, 0, none⟩)) (.pointer (some ⟨b2, 1, none⟩)) rfl rfl rfl (reads_field tfld24_1 _ _) ?_
  refine x_load (xv := .pointer (some ⟨b2, 1, none⟩)) (.int .i64 p0_1) rfl rfl rfl (reads_box tcell3 hb2 nn 1 _ rfl) ?_
  obtain ⟨x6, hx, h⟩ := bind_some h
  have hcall := job_in_w p0_1 0 12 _ w2 hx
  refine x_call 56 #[] #[] [.int .i64 p0_1, .int .i64 0, .int .i64 12] _ rfl rfl rfl rfl hcall ?_
  rintro v w7 ⟨rfl, he7⟩
  clear hcall hx
  refine ⟨.inl rfl, ?_⟩
  have hst := Stp.ext (ls := [[b2], M]) he7
  replace hs_p0_0 := hs_p0_0.step hst
  replace hb2 := he7.box hb2 nn
  replace hms := hms.ev he7
  replace hev := hev.ext he7
  refine x_pure 1 [(12, .bool (!x6))] _ _ _ (by kernel_rfl) ?_
  refine x_end rfl (k_then ?_)
  refine c_cond (!x6) rfl (fun hb => ?_) (fun hb => ?_)
  · replace h := ite_t hb h
    refine c_seq (c_plain ?_)
    refine x_pure 1 [(2, .int .i64 2)] _ _ _ (by kernel_rfl) ?_
    refine x_end rfl (k_then ?_)
    refine c_ret ?_
    refine k_then_ret ?_
    refine r_ret (r_vals [.int .i64 2] ⟨rfl, trivial⟩ ?_)
    have hx := some_inj h
    subst hx
    have hmr : MS w7 [M] := hms.pick [some 1] _ rfl
    have hsu : ∀ x ∈ fl [M], x ∈ fl [[b2], M] := pick_sub [some 1] _ rfl
    exact ⟨rfl, hev⟩
  replace h := ite_f hb h
  refine c_skip ?_
  refine k_then ?_
  refine c_seq ?_
  refine c_seq (c_plain ?_)
  refine x_fieldAddr (xv := .pointer (some ⟨b2, 0, none⟩)) (.pointer (some ⟨b2, 0, none⟩)) rfl rfl rfl (reads_field tfld24_0 _ _) ?_
  refine x_load (xv := .pointer (some ⟨b2, 0, none⟩)) (.slice a_p0_0 (p0_0).length c_p0_0) rfl rfl rfl (reads_box tcell22 hb2 nn 0 _ rfl) ?_
  refine x_len (vs := [.slice a_p0_0 (p0_0).length c_p0_0]) (.int .i64 ((p0_0).length : Int)) rfl rfl rfl (reads_len tsl22 _ _ _ _ _) ?_
  refine x_pure 1 [(16, .int .i64 0)] _ _ _ (by kernel_rfl) ?_
  refine x_end rfl (k_then ?_)
  refine c_norm [(1, .pointer (some ⟨b2, 0, none⟩)), (14, .slice a_p0_0 (p0_0).length c_p0_0), (15, .int .i64 ((p0_0).length : Int)), (16, .int .i64 0)] ⟨rfl, rfl, rfl, rfl, trivial⟩ (fun J => ?_)
  refine c_block ?_
  obtain ⟨d8, hd8, h8⟩ := bind_some h
  obtain ⟨m8, hd8⟩ := loop_some hd8
  refine c_loop (loop_rule hmx (σ := Nat × Int) (fun s => match s with | (_, t16__s16_l8) => [(1, .pointer (some ⟨b2, 0, none⟩)), (14, .slice a_p0_0 (p0_0).length c_p0_0), (15, .int .i64 ((p0_0).length : Int)), (16, .int .i64 t16__s16_l8)]) (fun s w' => match s with | (m, t16__s16_l8) => loopN (job_Valid_L8 p0_0) m t16__s16_l8 = some d8 ∧ Ev [] w w' ∧ MS w' [[b2], M] ∧ FR w.heap.size [[b2]] ∧ SlR (eProd (eInt .i64) (eProd (eInt .i64) (eProd (eInt .i64) (eInt .i64)))) w' (fl [[b2], M]) a_p0_0 c_p0_0 p0_0 ∧ w'.heap[b2]? = some (.cells #[.slice a_p0_0 (p0_0).length c_p0_0, .int .i64 p0_1] 24 (0, 0))) (fun s => s.1) (m8, 0) ⟨rfl, rfl, rfl, rfl, trivial⟩ ⟨hd8, hev, hms, hfr, hs_p0_0, hb2⟩ ?_)
  rintro ⟨m8, t16__s16_l8⟩ J wl8 ⟨hn8, hev, hms, hfr, hs_p0_0, hb2⟩
  rcases m8 with _ | m8
  · exact (loopN_zero hn8).elim
  obtain ⟨t8, h, hn8⟩ := bind_some hn8
  refine c_seq (c_plain ?_)
  refine x_pure 1 [(17, .bool (decide (t16__s16_l8 < ((p0_0).length : Int))))] _ _ _ (by kernel_rfl) ?_
  refine x_end rfl (k_then ?_)
  refine c_norm [(1, .pointer (some ⟨b2, 0, none⟩)), (14, .slice a_p0_0 (p0_0).length c_p0_0), (15, .int .i64 ((p0_0).length : Int)), (16, .int .i64 t16__s16_l8), (17, .bool (decide (t16__s16_l8 < ((p0_0).length : Int))))] ⟨rfl, rfl, rfl, rfl, rfl, trivial⟩ (fun J => ?_)
  refine c_seq ?_
  refine c_cond (decide (t16__s16_l8 < ((p0_0).length : Int))) rfl (fun hb => ?_) (fun hb => ?_)
  · replace h := ite_t hb h
    refine c_skip ?_
    refine k_then ?_
    refine c_seq ?_
    refine c_block ?_
    refine c_seq (c_plain ?_)
    refine x_pure 1 [(18, .int .i64 t16__s16_l8)] _ _ _ (by kernel_rfl) ?_
    obtain ⟨x10, hx10, h⟩ := bind_some h
    obtain ⟨ad10, cs10, hr10, hc10, hR⟩ := reads_index (Mo := []) tsl22 hs_p0_0 hx10
    obtain ⟨_, _, rfl, rfl, ⟨_, _, rfl, rfl, ⟨_, _, rfl, rfl, rfl⟩⟩⟩ := hR
    refine x_indexAddr (xv := .slice a_p0_0 (p0_0).length c_p0_0) (yv := .int .i64 t16__s16_l8) (.pointer (some ad10)) rfl rfl rfl rfl hr10 ?_
    refine x_load (xv := .pointer (some ad10)) (.agg #[.int .i64 x10.1, .int .i64 x10.2.1, .int .i64 x10.2.2.1, .int .i64 x10.2.2.2]) rfl rfl rfl (reads_agg tagg26 hc10 (fun _ h => by cases h)) ?_
    refine x_alloc (z := .agg #[.int .i64 0, .int .i64 0, .int .i64 0, .int .i64 0]) rfl rfl (by kernel_rfl) (fun b12 w12 hq12 hb12 he12 hz12 => ?_)
    replace hb12 : w12.heap[b12]? = some (.cells #[.int .i64 0, .int .i64 0, .int .i64 0, .int .i64 0] 26 (0, 0)) := hb12
    refine ⟨.inl rfl, ?_⟩
    have hst := Stp.box (ls := [[b2], M]) he12 hq12
    replace hb2 := he12.box hb2 nn
    replace hs_p0_0 := hs_p0_0.step hst
    replace hc10 := hc10.step hst
    replace hms := hms.box he12 hq12 hb12
    replace hfr := hfr.box hev.size hq12
    replace hev := hev.ext he12
    refine x_pure 1 [(3, .int .i64 t16__s16_l8)] _ _ _ (by kernel_rfl) ?_
    obtain ⟨w14, hr14, hb14, he14⟩ := store_boxagg 0 [.int .i64 x10.1, .int .i64 x10.2.1, .int .i64 x10.2.2.1, .int .i64 x10.2.2.2] #[.int .i64 x10.1, .int .i64 x10.2.1, .int .i64 x10.2.2.1, .int .i64 x10.2.2.2] tagg26 hb12 rfl rfl rfl
    refine x_store w14 (xv := .pointer (some ⟨b12, 0, none⟩)) (yv := .agg #[.int .i64 x10.1, .int .i64 x10.2.1, .int .i64 x10.2.2.1, .int .i64 x10.2.2.2]) rfl rfl rfl rfl hr14 ?_
    refine ⟨.inl rfl, ?_⟩
    have hst := Stp.ev' (ls := [[b12], [b2], M]) he14 (mem_flat 0 rfl)
    replace hb2 := he14.box hb2 (hms.apart 1 0 rfl rfl rfl _ (List.mem_singleton.2 rfl))
    replace hs_p0_0 := hs_p0_0.step hst
    replace hc10 := hc10.step hst
    replace hms := hms.ev he14
    replace hev := hev.then he14 (fun b hb => .inr (hfr.at 0 rfl b hb))
    replace hb12 := hb14
    refine x_end rfl (k_then ?_)
    refine c_seq ?_
    refine c_seq (c_plain ?_)
    refine x_fieldAddr (xv := .pointer (some ⟨b12, 0, none⟩)) (.pointer (some ⟨b12, 0, none⟩)) rfl rfl rfl (reads_field tfld26_0 _ _) ?_
    refine x_load (xv := .pointer (some ⟨b12, 0, none⟩)) (.int .i64 x10.1) rfl rfl rfl (reads_box tcell3 hb12 nn 0 _ rfl) ?_
    obtain ⟨x16, hx, h⟩ := bind_some h
    have hcall := job_in_w x10.1 0 15 _ w14 hx
    refine x_call 56 #[] #[] [.int .i64 x10.1, .int .i64 0, .int .i64 15] _ rfl rfl rfl rfl hcall ?_
    rintro v w17 ⟨rfl, he17⟩
    clear hcall hx
    refine ⟨.inl rfl, ?_⟩
    have hst := Stp.ext (ls := [[b12], [b2], M]) he17
    replace hb2 := he17.box hb2 nn
    replace hs_p0_0 := hs_p0_0.step hst
    replace hb12 := he17.box hb12 nn
    replace hms := hms.ev he17
    replace hev := hev.ext he17
    refine x_pure 2 [(24, .bool (!x16)), (25, .bool (!x16))] _ _ _ (by kernel_rfl) ?_
    refine x_split 25 (!x16) rfl (fun hb => ?_) (fun hb => ?_)
    · replace h := ite_t hb h
      refine x_pure 17 [(26, undef), (27, undef), (28, undef), (29, undef), (30, .bool true), (31, .bool true), (32, undef), (33, undef), (34, undef), (35, undef), (36, .bool true), (37, .bool true), (38, undef), (39, undef), (40, undef), (41, undef), (42, .bool true)] _ _ _ (by kernel_rfl) ?_
      refine x_end rfl (k_then ?_)
      refine c_norm [(1, .pointer (some ⟨b2, 0, none⟩)), (3, .int .i64 t16__s16_l8), (4, .pointer (some ⟨b12, 0, none⟩)), (14, .slice a_p0_0 (p0_0).length c_p0_0), (15, .int .i64 ((p0_0).length : Int)), (16, .int .i64 t16__s16_l8), (42, .bool true)] ⟨rfl, rfl, rfl, rfl, rfl, rfl, rfl, trivial⟩ (fun J => ?_)
      refine c_true rfl ?_
      refine c_seq (c_plain ?_)
      refine x_pure 1 [(2, .int .i64 2)] _ _ _ (by kernel_rfl) ?_
      refine x_end rfl (k_then ?_)
      refine c_ret ?_
      refine k_then_ret ?_
      refine k_block_ret ?_
      refine k_then_ret ?_
      have hx := some_inj h
      subst hx
      have hy := some_inj hn8
      subst hy
      replace h := h8
      refine k_then_ret ?_
      refine k_block_ret ?_
      refine k_then_ret ?_
      refine r_ret (r_vals [.int .i64 2] ⟨rfl, trivial⟩ ?_)
      have hx := some_inj h
      subst hx
      have hmr : MS w17 [M] := hms.pick [some 2] _ rfl
      have hsu : ∀ x ∈ fl [M], x ∈ fl [[b12], [b2], M] := pick_sub [some 2] _ rfl
      exact ⟨rfl, hev⟩
    replace h := ite_f hb h
    refine x_fieldAddr (xv := .pointer (some ⟨b12, 0, none⟩)) (.pointer (some ⟨b12, 1, none⟩)) rfl rfl rfl (reads_field tfld26_1 _ _) ?_
    refine x_load (xv := .pointer (some ⟨b12, 1, none⟩)) (.int .i64 x10.2.1) rfl rfl rfl (reads_box tcell3 hb12 nn 1 _ rfl) ?_
    obtain ⟨x18, hx, h⟩ := bind_some h
    have hcall := job_in_w x10.2.1 0 31 _ w17 hx
    refine x_call 56 #[] #[] [.int .i64 x10.2.1, .int .i64 0, .int .i64 31] _ rfl rfl rfl rfl hcall ?_
    rintro v w19 ⟨rfl, he19⟩
    clear hcall hx
    refine ⟨.inl rfl, ?_⟩
    have hst := Stp.ext (ls := [[b12], [b2], M]) he19
    replace hb2 := he19.box hb2 nn
    replace hs_p0_0 := hs_p0_0.step hst
    replace hb12 := he19.box hb12 nn
    replace hms := hms.ev he19
    replace hev := hev.ext he19
    refine x_pure 3 [(29, .bool (!x18)), (30, .bool (!x18)), (31, .bool (!x18))] _ _ _ (by kernel_rfl) ?_
    refine x_split 31 (!x18) rfl (fun hb => ?_) (fun hb => ?_)
    · replace h := ite_t hb h
      refine x_pure 11 [(32, undef), (33, undef), (34, undef), (35, undef), (36, .bool true), (37, .bool true), (38, undef), (39, undef), (40, undef), (41, undef), (42, .bool true)] _ _ _ (by kernel_rfl) ?_
      refine x_end rfl (k_then ?_)
      refine c_norm [(1, .pointer (some ⟨b2, 0, none⟩)), (3, .int .i64 t16__s16_l8), (4, .pointer (some ⟨b12, 0, none⟩)), (14, .slice a_p0_0 (p0_0).length c_p0_0), (15, .int .i64 ((p0_0).length : Int)), (16, .int .i64 t16__s16_l8), (42, .bool true)] ⟨rfl, rfl, rfl, rfl, rfl, rfl, rfl, trivial⟩ (fun J => ?_)
      refine c_true rfl ?_
      refine c_seq (c_plain ?_)
      refine x_pure 1 [(2, .int .i64 2)] _ _ _ (by kernel_rfl) ?_
      refine x_end rfl (k_then ?_)
      refine c_ret ?_
      refine k_then_ret ?_
      refine k_block_ret ?_
      refine k_then_ret ?_
      have hx := some_inj h
      subst hx
      have hy := some_inj hn8
      subst hy
      replace h := h8
      refine k_then_ret ?_
      refine k_block_ret ?_
      refine k_then_ret ?_
      refine r_ret (r_vals [.int .i64 2] ⟨rfl, trivial⟩ ?_)
      have hx := some_inj h
      subst hx
      have hmr : MS w19 [M] := hms.pick [some 2] _ rfl
      have hsu : ∀ x ∈ fl [M], x ∈ fl [[b12], [b2], M] := pick_sub [some 2] _ rfl
      exact ⟨rfl, hev⟩
    replace h := ite_f hb h
    refine x_fieldAddr (xv := .pointer (some ⟨b12, 0, none⟩)) (.pointer (some ⟨b12, 2, none⟩)) rfl rfl rfl (reads_field tfld26_2 _ _) ?_
    refine x_load (xv := .pointer (some ⟨b12, 2, none⟩)) (.int .i64 x10.2.2.1) rfl rfl rfl (reads_box tcell3 hb12 nn 2 _ rfl) ?_
    obtain ⟨x20, hx, h⟩ := bind_some h
    have hcall := job_in_w x10.2.2.1 0 12 _ w19 hx
    refine x_call 56 #[] #[] [.int .i64 x10.2.2.1, .int .i64 0, .int .i64 12] _ rfl rfl rfl rfl hcall ?_
    rintro v w21 ⟨rfl, he21⟩
    clear hcall hx
    refine ⟨.inl rfl, ?_⟩
    have hst := Stp.ext (ls := [[b12], [b2], M]) he21
    replace hb2 := he21.box hb2 nn
    replace hs_p0_0 := hs_p0_0.step hst
    replace hb12 := he21.box hb12 nn
    replace hms := hms.ev he21
    replace hev := hev.ext he21
    refine x_pure 3 [(35, .bool (!x20)), (36, .bool (!x20)), (37, .bool (!x20))] _ _ _ (by kernel_rfl) ?_
    refine x_split 37 (!x20) rfl (fun hb => ?_) (fun hb => ?_)
    · replace h := ite_t hb h
      refine x_pure 5 [(38, undef), (39, undef), (40, undef), (41, undef), (42, .bool true)] _ _ _ (by kernel_rfl) ?_
      refine x_end rfl (k_then ?_)
      refine c_norm [(1, .pointer (some ⟨b2, 0, none⟩)), (3, .int .i64 t16__s16_l8), (4, .pointer (some ⟨b12, 0, none⟩)), (14, .slice a_p0_0 (p0_0).length c_p0_0), (15, .int .i64 ((p0_0).length : Int)), (16, .int .i64 t16__s16_l8), (42, .bool true)] ⟨rfl, rfl, rfl, rfl, rfl, rfl, rfl, trivial⟩ (fun J => ?_)
      refine c_true rfl ?_
      refine c_seq (c_plain ?_)
      refine x_pure 1 [(2, .int .i64 2)] _ _ _ (by kernel_rfl) ?_
      refine x_end rfl (k_then ?_)
      refine c_ret ?_
      refine k_then_ret ?_
      refine k_block_ret ?_
      refine k_then_ret ?_
      have hx := some_inj h
      subst hx
      have hy := some_inj hn8
      subst hy
      replace h := h8
      refine k_then_ret ?_
      refine k_block_ret ?_
      refine k_then_ret ?_
      refine r_ret (r_vals [.int .i64 2] ⟨rfl, trivial⟩ ?_)
      have hx := some_inj h
      subst hx
      have hmr : MS w21 [M] := hms.pick [some 2] _ rfl
      have hsu : ∀ x ∈ fl [M], x ∈ fl [[b12], [b2], M] := pick_sub [some 2] _ rfl
      exact ⟨rfl, hev⟩
    replace h := ite_f hb h
    refine x_fieldAddr (xv := .pointer (some ⟨b12, 0, none⟩)) (.pointer (some ⟨b12, 3, none⟩)) rfl rfl rfl (reads_field tfld26_3 _ _) ?_
    refine x_load (xv := .pointer (some ⟨b12, 3, none⟩)) (.int .i64 x10.2.2.2) rfl rfl rfl (reads_box tcell3 hb12 nn 3 _ rfl) ?_
    obtain ⟨x22, hx, h⟩ := bind_some h
    have hcall := job_in_w x10.2.2.2 1 400 _ w21 hx
    refine x_call 56 #[] #[] [.int .i64 x10.2.2.2, .int .i64 1, .int .i64 400] _ rfl rfl rfl rfl hcall ?_
    rintro v w23 ⟨rfl, he23⟩
    clear hcall hx
    refine ⟨.inl rfl, ?_⟩
    have hst := Stp.ext (ls := [[b12], [b2], M]) he23
    replace hb2 := he23.box hb2 nn
    replace hs_p0_0 := hs_p0_0.step hst
    replace hb12 := he23.box hb12 nn
    replace hms := hms.ev he23
    replace hev := hev.ext he23
    refine x_pure 2 [(41, .bool (!x22)), (42, .bool (!x22))] _ _ _ (by kernel_rfl) ?_
    refine x_end rfl (k_then ?_)
    refine c_norm [(1, .pointer (some ⟨b2, 0, none⟩)), (3, .int .i64 t16__s16_l8), (4, .pointer (some ⟨b12, 0, none⟩)), (14, .slice a_p0_0 (p0_0).length c_p0_0), (15, .int .i64 ((p0_0).length : Int)), (16, .int .i64 t16__s16_l8), (42, .bool (!x22))] ⟨rfl, rfl, rfl, rfl, rfl, rfl, rfl, trivial⟩ (fun J => ?_)
    refine c_cond (!x22) rfl (fun hb => ?_) (fun hb => ?_)
    · replace h := ite_t hb h
      refine c_seq (c_plain ?_)
      refine x_pure 1 [(2, .int .i64 2)] _ _ _ (by kernel_rfl) ?_
      refine x_end rfl (k_then ?_)
      refine c_ret ?_
      refine k_then_ret ?_
      refine k_block_ret ?_
      refine k_then_ret ?_
      have hx := some_inj h
      subst hx
      have hy := some_inj hn8
      subst hy
      replace h := h8
      refine k_then_ret ?_
      refine k_block_ret ?_
      refine k_then_ret ?_
      refine r_ret (r_vals [.int .i64 2] ⟨rfl, trivial⟩ ?_)
      have hx := some_inj h
      subst hx
      have hmr : MS w23 [M] := hms.pick [some 2] _ rfl
      have hsu : ∀ x ∈ fl [M], x ∈ fl [[b12], [b2], M] := pick_sub [some 2] _ rfl
      exact ⟨rfl, hev⟩
    replace h := ite_f hb h
    refine c_skip ?_
    refine k_then ?_
    refine c_seq ?_
    refine c_drawn [] [(0, false), (1, false), (2, false), (3, false), (4, false), (5, false), (6, false), (7, false), (8, false), (9, false), (10, false), (11, false), (12, false), (13, false)] _ (by kernel_rfl) rfl ?_
    have hst := Stp.ext (ls := [[b12], [b2], M]) (Ev.drew w23)
    replace hb2 := (Ev.drew w23).box hb2 nn
    replace hs_p0_0 := hs_p0_0.step hst
    replace hb12 := (Ev.drew w23).box hb12 nn
    replace hms := hms.ev (Ev.drew w23)
    replace hev := hev.ext (Ev.drew w23)
    refine x_pure 3 [(43, .int .i64 t16__s16_l8), (44, .bool (decide (t16__s16_l8 > 0))), (45, .bool (decide (t16__s16_l8 > 0)))] _ _ _ (by kernel_rfl) ?_
    refine x_split 45 (decide (t16__s16_l8 > 0)) rfl (fun hb => ?_) (fun hb => ?_)
    · replace h := ite_t hb h
      refine x_fieldAddr (xv := .pointer (some ⟨b12, 0, none⟩)) (.pointer (some ⟨b12, 2, none⟩)) rfl rfl rfl (reads_field tfld26_2 _ _) ?_
      refine x_load (xv := .pointer (some ⟨b12, 2, none⟩)) (.int .i64 x10.2.2.1) rfl rfl rfl (reads_box tcell3 hb12 nn 2 _ rfl) ?_
      refine x_fieldAddr (xv := .pointer (some ⟨b2, 0, none⟩)) (.pointer (some ⟨b2, 0, none⟩)) rfl rfl rfl (reads_field tfld24_0 _ _) ?_
      refine x_load (xv := .pointer (some ⟨b2, 0, none⟩)) (.slice a_p0_0 (p0_0).length c_p0_0) rfl rfl rfl (reads_box tcell22 hb2 nn 0 _ rfl) ?_
      refine x_pure 2 [(50, .int .i64 t16__s16_l8), (51, .int .i64 (IntKind.i64.wrap (t16__s16_l8 - 1)))] _ _ _ (by kernel_rfl) ?_
      obtain ⟨x24, hx24, h⟩ := bind_some h
      obtain ⟨ad24, cs24, hr24, hc24, hR⟩ := reads_index (Mo := []) tsl22 hs_p0_0 hx24
      obtain ⟨_, _, rfl, rfl, ⟨_, _, rfl, rfl, ⟨_, _, rfl, rfl, rfl⟩⟩⟩ := hR
      refine x_indexAddr (xv := .slice a_p0_0 (p0_0).length c_p0_0) (yv := .int .i64 (IntKind.i64.wrap (t16__s16_l8 - 1))) (.pointer (some ad24)) rfl rfl rfl rfl hr24 ?_
      refine x_fieldAddr (xv := .pointer (some ad24)) (.pointer (some (Addr.add ad24 2))) rfl rfl rfl (reads_field tfld26_2 _ _) ?_
      refine x_load (xv := .pointer (some (Addr.add ad24 2))) (.int .i64 x24.2.2.1) rfl rfl rfl (reads_cell tcell3 hc24 (fun _ h => by cases h) 2 _ rfl) ?_
      refine x_pure 2 [(55, .bool (decide (x10.2.2.1 < x24.2.2.1))), (56, .bool (decide (x10.2.2.1 < x24.2.2.1)))] _ _ _ (by kernel_rfl) ?_
      refine x_end rfl (k_then ?_)
      refine c_norm [(1, .pointer (some ⟨b2, 0, none⟩)), (14, .slice a_p0_0 (p0_0).length c_p0_0), (15, .int .i64 ((p0_0).length : Int)), (16, .int .i64 t16__s16_l8), (56, .bool (decide (x10.2.2.1 < x24.2.2.1)))] ⟨rfl, rfl, rfl, rfl, rfl, trivial⟩ (fun J => ?_)
      refine c_cond (decide (x10.2.2.1 < x24.2.2.1)) rfl (fun hb => ?_) (fun hb => ?_)
      · replace h := ite_t hb h
        refine c_seq (c_plain ?_)
        refine x_pure 1 [(2, .int .i64 12)] _ _ _ (by kernel_rfl) ?_
        refine x_end rfl (k_then ?_)
        refine c_ret ?_
        refine k_block_ret ?_
        refine k_then_ret ?_
        have hx := some_inj h
        subst hx
        have hy := some_inj hn8
        subst hy
        replace h := h8
        refine k_then_ret ?_
        refine k_block_ret ?_
        refine k_then_ret ?_
        refine r_ret (r_vals [.int .i64 12] ⟨rfl, trivial⟩ ?_)
        have hx := some_inj h
        subst hx
        have hmr : MS (w23).drew [M] := hms.pick [some 2] _ rfl
        have hsu : ∀ x ∈ fl [M], x ∈ fl [[b12], [b2], M] := pick_sub [some 2] _ rfl
        exact ⟨rfl, hev⟩
      replace h := ite_f hb h
      refine c_skip ?_
      refine k_block ?_
      refine k_then ?_
      refine c_plain ?_
      refine x_pure 2 [(57, .int .i64 (IntKind.i64.wrap (t16__s16_l8 + 1))), (16, .int .i64 (IntKind.i64.wrap (t16__s16_l8 + 1)))] _ _ _ (by kernel_rfl) ?_
      refine x_end rfl ?_
      have hx := some_inj h
      subst hx
      have hpk : MS (w23).drew [[b2], M] := hms.pick [some 1, some 2] _ rfl
      have hsu : ∀ x ∈ fl [[b2], M], x ∈ fl [[b12], [b2], M] := pick_sub [some 1, some 2] _ rfl
      replace hs_p0_0 := hs_p0_0.sub hsu
      replace hms := hpk
      replace hfr : FR w.heap.size [[b2]] := hfr.pick [some 1] _ rfl
      clear hpk hsu
      exact k_then ⟨(m8, IntKind.i64.wrap (t16__s16_l8 + 1)), ⟨rfl, rfl, rfl, rfl, trivial⟩, ⟨hn8, hev, hms, hfr, hs_p0_0, hb2⟩, Nat.lt_succ_self _⟩
    replace h := ite_f hb h
    refine x_pure 11 [(46, undef), (47, undef), (48, undef), (49, undef), (50, undef), (51, undef), (52, undef), (53, undef), (54, undef), (55, undef), (56, .bool false)] _ _ _ (by kernel_rfl) ?_
    refine x_end rfl (k_then ?_)
    refine c_norm [(1, .pointer (some ⟨b2, 0, none⟩)), (14, .slice a_p0_0 (p0_0).length c_p0_0), (15, .int .i64 ((p0_0).length : Int)), (16, .int .i64 t16__s16_l8), (56, .bool false)] ⟨rfl, rfl, rfl, rfl, rfl, trivial⟩ (fun J => ?_)
    refine c_false rfl ?_
    refine c_skip ?_
    refine k_block ?_
    refine k_then ?_
    refine c_plain ?_
    refine x_pure 2 [(57, .int .i64 (IntKind.i64.wrap (t16__s16_l8 + 1))), (16, .int .i64 (IntKind.i64.wrap (t16__s16_l8 + 1)))] _ _ _ (by kernel_rfl) ?_
    refine x_end rfl ?_
    have hx := some_inj h
    subst hx
    have hpk : MS (w23).drew [[b2], M] := hms.pick [some 1, some 2] _ rfl
    have hsu : ∀ x ∈ fl [[b2], M], x ∈ fl [[b12], [b2], M] := pick_sub [some 1, some 2] _ rfl
    replace hs_p0_0 := hs_p0_0.sub hsu
    replace hms := hpk
    replace hfr : FR w.heap.size [[b2]] := hfr.pick [some 1] _ rfl
    clear hpk hsu
    exact k_then ⟨(m8, IntKind.i64.wrap (t16__s16_l8 + 1)), ⟨rfl, rfl, rfl, rfl, trivial⟩, ⟨hn8, hev, hms, hfr, hs_p0_0, hb2⟩, Nat.lt_succ_self _⟩
  replace h := ite_f hb h
  refine c_exit ?_
  refine k_then_exit ?_
  have hx := some_inj h
  subst hx
  have hy := some_inj hn8
  subst hy
  replace h := h8
  refine k_then_exit ?_
  refine k_block_in ?_
  refine k_then ?_
  refine c_norm [] trivial (fun J => ?_)
  refine c_seq (c_plain ?_)
  refine x_pure 1 [(2, .int .i64 0)] _ _ _ (by kernel_rfl) ?_
  refine x_end rfl (k_then ?_)
  refine c_ret ?_
  refine r_ret (r_vals [.int .i64 0] ⟨rfl, trivial⟩ ?_)
  have hx := some_inj h
  subst hx
  have hmr : MS wl8 [M] := hms.pick [some 1] _ rfl
  have hsu : ∀ x ∈ fl [M], x ∈ fl [[b2], M] := pick_sub [some 1] _ rfl
  exact ⟨rfl, hev⟩
def job_byBlock_1 (p0 : Int) (p1 : Int) (p2_0 : List (Int × Int × Int × Int)) (p2_1 : Int) : Option Int :=
((idx p2_0 p0).bind fun x3 =>
((idx p2_0 p1).bind fun x5 =>
some (IntKind.i64.wrap (x3.2.1 - x5.2.1))))

theorem job_byBlock_1_w (p0 : Int) (p1 : Int) (b_p2 : Nat) (a_p2_0 : Option Addr) (c_p2_0 : Nat) (p2_0 : List (Int × Int × Int × Int)) (p2_1 : Int) (r : Int) (w : World) (M : List Nat) (hms : MS w [[b_p2], M]) (hs_p2_0 : SlR (eProd (eInt .i64) (eProd (eInt .i64) (eProd (eInt .i64) (eInt .i64)))) w (fl [[b_p2], M]) a_p2_0 c_p2_0 p2_0) (hb_p2 : w.heap[b_p2]? = some (.cells #[.slice a_p2_0 (p2_0).length c_p2_0, .int .i64 p2_1] 24 (0, 0))) (h : job_byBlock_1 p0 p1 p2_0 p2_1 = some r) : CallVC Try.prog 67 [.int .i64 p0, .int .i64 p1, .pointer (some ⟨b_p2, 0, none⟩)] w fun v w' => (∃ q, w' = w.drewN q) ∧ v = .int .i64 r ∧ Ev [b_p2] w w' ∧ w'.heap[b_p2]? = some (.cells #[.slice a_p2_0 (p2_0).length c_p2_0, .int .i64 p2_1] 24 (0, 0)) := by
  refine calls_vc hmx Try.func67 (by kernel_rfl) rfl (rs := [.tmp 5]) rfl (by kernel_rfl) (args := [.int .i64 p0, .int .i64 p1, .pointer (some ⟨b_p2, 0, none⟩)]) rfl ?_
  have hev : Ev [b_p2] w w := Ev.refl _ _
  have hfr : FR w.heap.size [] := FR.nil _
  refine c_seq (c_plain ?_)
  refine x_pure 1 [(5, .int .i64 0)] _ _ _ (by kernel_rfl) ?_
  refine x_end rfl (k_then ?_)
  refine c_seq ?_
  refine c_drawn [] [(0, false), (1, false), (2, false), (3, false), (4, false), (5, false), (6, false), (7, false), (8, false), (9, false), (10, false), (11, false), (12, false), (13, false)] _ (by kernel_rfl) rfl ?_
  have hst := Stp.ext (ls := [[b_p2], M]) (Ev.drew w)
  replace hs_p2_0 := hs_p2_0.step hst
  replace hb_p2 := (Ev.drew w).box hb_p2 nn
  replace hms := hms.ev (Ev.drew w)
  replace hev := hev.ext (Ev.drew w)
  refine x_fieldAddr (xv := .pointer (some ⟨b_p2, 0, none⟩)) (.pointer (some ⟨b_p2, 0, none⟩)) rfl rfl rfl (reads_field tfld24_0 _ _) ?_
  refine x_load (xv := .pointer (some ⟨b_p2, 0, none⟩)) (.slice a_p2_0 (p2_0).length c_p2_0) rfl rfl rfl (reads_box tcell22 hb_p2 nn 0 _ rfl) ?_
  refine x_pure 1 [(8, .int .i64 p0)] _ _ _ (by kernel_rfl) ?_
  obtain ⟨x3, hx3, h⟩ := bind_some h
  obtain ⟨ad3, cs3, hr3, hc3, hR⟩ := reads_index (Mo := []) tsl22 hs_p2_0 hx3
  obtain ⟨_, _, rfl, rfl, ⟨_, _, rfl, rfl, ⟨_, _, rfl, rfl, rfl⟩⟩⟩ := hR
  refine x_indexAddr (xv := .slice a_p2_0 (p2_0).length c_p2_0) (yv := .int .i64 p0) (.pointer (some ad3)) rfl rfl rfl rfl hr3 ?_
  refine x_fieldAddr (xv := .pointer (some ad3)) (.pointer (some (Addr.add ad3 1))) rfl rfl rfl (reads_field tfld26_1 _ _) ?_
  refine x_load (xv := .pointer (some (Addr.add ad3 1))) (.int .i64 x3.2.1) rfl rfl rfl (reads_cell tcell3 hc3 (fun _ h => by cases h) 1 _ rfl) ?_
  refine x_fieldAddr (xv := .pointer (some ⟨b_p2, 0, none⟩)) (.pointer (some ⟨b_p2, 0, none⟩)) rfl rfl rfl (reads_field tfld24_0 _ _) ?_
  refine x_load (xv := .pointer (some ⟨b_p2, 0, none⟩)) (.slice a_p2_0 (p2_0).length c_p2_0) rfl rfl rfl (reads_box tcell22 hb_p2 nn 0 _ rfl) ?_
  refine x_pure 1 [(14, .int .i64 p1)] _ _ _ (by kernel_rfl) ?_
  obtain ⟨x5, hx5, h⟩ := bind_some h
  obtain ⟨ad5, cs5, hr5, hc5, hR⟩ := reads_index (Mo := []) tsl22 hs_p2_0 hx5
  obtain ⟨_, _, rfl, rfl, ⟨_, _, rfl, rfl, ⟨_, _, rfl, rfl, rfl⟩⟩⟩ := hR
  refine x_indexAddr (xv := .slice a_p2_0 (p2_0).length c_p2_0) (yv := .int .i64 p1) (.pointer (some ad5)) rfl rfl rfl rfl hr5 ?_
  refine x_fieldAddr (xv := .pointer (some ad5)) (.pointer (some (Addr.add ad5 1))) rfl rfl rfl (reads_field tfld26_1 _ _) ?_
  refine x_load (xv := .pointer (some (Addr.add ad5 1))) (.int .i64 x5.2.1) rfl rfl rfl (reads_cell tcell3 hc5 (fun _ h => by cases h) 1 _ rfl) ?_
  refine x_pure 2 [(18, .int .i64 (IntKind.i64.wrap (x3.2.1 - x5.2.1))), (5, .int .i64 (IntKind.i64.wrap (x3.2.1 - x5.2.1)))] _ _ _ (by kernel_rfl) ?_
  refine x_end rfl (k_then ?_)
  refine c_norm [(5, .int .i64 (IntKind.i64.wrap (x3.2.1 - x5.2.1)))] ⟨rfl, trivial⟩ (fun J => ?_)
  refine c_ret ?_
  refine r_ret (r_vals [.int .i64 (IntKind.i64.wrap (x3.2.1 - x5.2.1))] ⟨rfl, trivial⟩ ?_)
  have hx := some_inj h
  subst hx
  have hmr : MS (w).drew [[b_p2], M] := hms.pick [some 0, some 1] _ rfl
  have hsu : ∀ x ∈ fl [[b_p2], M], x ∈ fl [[b_p2], M] := pick_sub [some 0, some 1] _ rfl
  exact ⟨⟨1, rfl⟩, rfl, hev, hb_p2⟩
def job_byBlock_L7 (p0_0 : List (Int × Int × Int × Int)) (s : (List Int) × Int) : Option (Step ((List Int) × Int) (List Int)) :=
match s with
| (d5_l7, t11__s11_l7) =>
(if (decide (t11__s11_l7 < (((List.replicate (Int.toNat ((p0_0).length : Int)) 0 : List Int)).length : Int))) = true then
((idx d5_l7 t11__s11_l7).bind fun x8 =>
some (.next ((d5_l7.set (Int.toNat t11__s11_l7) t11__s11_l7), IntKind.i64.wrap (t11__s11_l7 + 1))))
else
some (.done d5_l7))

def job_byBlock (p0_0 : List (Int × Int × Int × Int)) (p0_1 : Int) : Option (List Int) :=
(if (0 : Int) ≤ ((p0_0).length : Int) ∧ (((p0_0).length : Int) : Int) ≤ 4294967296 then
((loop (job_byBlock_L7 p0_0) ((List.replicate (Int.toNat ((p0_0).length : Int)) 0 : List Int), 0)).bind fun d => match d with
| d5_x7 => ((sortF (fun sx sy => job_byBlock_1 sx sy p0_0 p0_1) d5_x7).bind fun x11 =>
some x11))
else none)

theorem job_byBlock_w (a_p0_0 : Option Addr) (c_p0_0 : Nat) (p0_0 : List (Int × Int × Int × Int)) (p0_1 : Int) (r : (List Int)) (w : World) (M : List Nat) (hms : MS w [M]) (hs_p0_0 : SlR (eProd (eInt .i64) (eProd (eInt .i64) (eProd (eInt .i64) (eInt .i64)))) w (fl [M]) a_p0_0 c_p0_0 p0_0) (h : job_byBlock p0_0 p0_1 = some r) : CallVC Try.prog 63 [.agg #[.slice a_p0_0 (p0_0).length c_p0_0, .int .i64 p0_1]] w fun v w' => ∃ (a0' : Option Addr), ∃ (c0' : Nat), v = .slice a0' (r).length c0' ∧ Ev [] w w' ∧ MS w' [blk a0', M] ∧ FR w.heap.size [blk a0'] ∧ OwnS (eInt .i64) 3 w' (fl [blk a0', M]) a0' c0' r := by
  refine calls_vc hmx Try.func63 (by kernel_rfl) rfl (rs := [.tmp 2]) rfl (by kernel_rfl) (args := [.agg #[.slice a_p0_0 (p0_0).length c_p0_0, .int .i64 p0_1]]) rfl ?_
  have hev : Ev [] w w := Ev.refl _ _
  have hfr : FR w.heap.size [] := FR.nil _
  refine c_seq (c_plain ?_)
  refine x_box (xv := .agg #[.slice a_p0_0 (p0_0).length c_p0_0, .int .i64 p0_1]) rfl rfl rfl (fun b2 w2 hq2 hb2 he2 hz2 => ?_)
  replace hb2 : w2.heap[b2]? = some (.cells #[.slice a_p0_0 (p0_0).length c_p0_0, .int .i64 p0_1] 24 (0, 0)) := hb2
  refine ⟨.inl rfl, ?_⟩
  have hst := Stp.box (ls := [M]) he2 hq2
  replace hs_p0_0 := hs_p0_0.step hst
  replace hms := hms.box he2 hq2 hb2
  replace hfr := hfr.box hev.size hq2
  replace hev := hev.ext he2
  refine x_pure 1 [(2, .slice none 0 0)] _ _ _ (by kernel_rfl) ?_
  refine x_end rfl (k_then ?_)
  refine c_seq (c_plain ?_)
  refine x_fieldAddr (xv := .pointer (some ⟨b2, 0, none⟩)) (.pointer (some ⟨b2, 0, none⟩)) rfl rfl rfl (reads_field tfld24_0 _ _) ?_
  refine x_load (xv := .pointer (some ⟨b2, 0, none⟩)) (.slice a_p0_0 (p0_0).length c_p0_0) rfl rfl rfl (reads_box tcell22 hb2 nn 0 _ rfl) ?_
  refine x_len (vs := [.slice a_p0_0 (p0_0).length c_p0_0]) (.int .i64 ((p0_0).length : Int)) rfl rfl rfl (reads_len tsl22 _ _ _ _ _) ?_
  have hg := guard_l h
  replace h := guard_r h
  obtain ⟨a4, c4, w4, hr4, he4, hn4, hw4⟩ := own_make (e := (eInt .i64)) tel27 w2 ((p0_0).length : Int) hg.1 hg.2 0 (fun _ _ => rfl)
  refine x_makeSlice _ w4 (xv := .int .i64 ((p0_0).length : Int)) (yv := .int .i64 ((p0_0).length : Int)) rfl rfl rfl rfl hr4 ?_
  refine ⟨.inl rfl, ?_⟩
  have hst := Stp.push (ls := [[b2], M]) (l := blk a4) he4 (fun _ h => by cases h) (fun b hb => (hn4 b hb).1)
  replace hs_p0_0 := hs_p0_0.step hst
  replace hb2 := he4.box hb2 nn
  replace hms := hms.push he4 hn4
  replace hfr := hfr.push (fun b hb => Nat.le_trans hev.size (hn4 b hb).1)
  replace hev := hev.ext he4
  have ho4 := hw4 (fl [blk a4, [b2], M])
  clear hw4
  refine x_pure 1 [(3, .slice a4 ((List.replicate (Int.toNat ((p0_0).length : Int)) 0 : List Int)).length c4)] _ _ _ (by kernel_rfl) ?_
  refine x_end rfl (k_then ?_)
  refine c_seq ?_
  refine c_seq (c_plain ?_)
  refine x_pure 1 [(9, .slice a4 ((List.replicate (Int.toNat ((p0_0).length : Int)) 0 : List Int)).length c4)] _ _ _ (by kernel_rfl) ?_
  refine x_len (vs := [.slice a4 ((List.replicate (Int.toNat ((p0_0).length : Int)) 0 : List Int)).length c4]) (.int .i64 (((List.replicate (Int.toNat ((p0_0).length : Int)) 0 : List Int)).length : Int)) rfl rfl rfl (reads_len tsl27 _ _ _ _ _) ?_
  refine x_pure 1 [(11, .int .i64 0)] _ _ _ (by kernel_rfl) ?_
  refine x_end rfl (k_then ?_)
  refine c_block ?_
  have hpk : MS w4 [[b2], blk a4, M] := hms.pick [some 1, some 0, some 2] _ rfl
  have hsu : ∀ x ∈ fl [[b2], blk a4, M], x ∈ fl [blk a4, [b2], M] := pick_sub [some 1, some 0, some 2] _ rfl
  replace hs_p0_0 := hs_p0_0.sub hsu
  replace ho4 := ho4.sub hsu
  replace hms := hpk
  replace hfr : FR w.heap.size [[b2], blk a4] := hfr.pick [some 1, some 0] _ rfl
  clear hpk hsu
  obtain ⟨d7, hd7, h7⟩ := bind_some h
  obtain ⟨m7, hd7⟩ := loop_some hd7
  refine c_loop (loop_rule hmx (σ := Nat × (List Int) × Int × Option Addr) (fun s => match s with | (_, d5_l7, t11__s11_l7, a5_l7) => [(1, .pointer (some ⟨b2, 0, none⟩)), (3, .slice a5_l7 (d5_l7).length c4), (10, .int .i64 (((List.replicate (Int.toNat ((p0_0).length : Int)) 0 : List Int)).length : Int)), (11, .int .i64 t11__s11_l7)]) (fun s w' => match s with | (m, d5_l7, t11__s11_l7, a5_l7) => loopN (job_byBlock_L7 p0_0) m (d5_l7, t11__s11_l7) = some d7 ∧ Ev [] w w' ∧ MS w' [[b2], blk a5_l7, M] ∧ FR w.heap.size [[b2], blk a5_l7] ∧ SlR (eProd (eInt .i64) (eProd (eInt .i64) (eProd (eInt .i64) (eInt .i64)))) w' (fl [[b2], blk a5_l7, M]) a_p0_0 c_p0_0 p0_0 ∧ w'.heap[b2]? = some (.cells #[.slice a_p0_0 (p0_0).length c_p0_0, .int .i64 p0_1] 24 (0, 0)) ∧ OwnS (eInt .i64) 3 w' (fl [[b2], blk a5_l7, M]) a5_l7 c4 d5_l7) (fun s => s.1) (m7, (List.replicate (Int.toNat ((p0_0).length : Int)) 0 : List Int), 0, a4) ⟨rfl, rfl, rfl, rfl, trivial⟩ ⟨hd7, hev, hms, hfr, hs_p0_0, hb2, ho4⟩ ?_)
  rintro ⟨m7, d5_l7, t11__s11_l7, a5_l7⟩ J wl7 ⟨hn7, hev, hms, hfr, hs_p0_0, hb2, ho4⟩
  rcases m7 with _ | m7
  · exact (loopN_zero hn7).elim
  obtain ⟨t7, h, hn7⟩ := bind_some hn7
  refine c_seq (c_plain ?_)
  refine x_pure 1 [(12, .bool (decide (t11__s11_l7 < (((List.replicate (Int.toNat ((p0_0).length : Int)) 0 : List Int)).length : Int))))] _ _ _ (by kernel_rfl) ?_
  refine x_end rfl (k_then ?_)
  refine c_norm [(1, .pointer (some ⟨b2, 0, none⟩)), (3, .slice a5_l7 (d5_l7).length c4), (10, .int .i64 (((List.replicate (Int.toNat ((p0_0).length : Int)) 0 : List Int)).length : Int)), (11, .int .i64 t11__s11_l7), (12, .bool (decide (t11__s11_l7 < (((List.replicate (Int.toNat ((p0_0).length : Int)) 0 : List Int)).length : Int))))] ⟨rfl, rfl, rfl, rfl, rfl, trivial⟩ (fun J => ?_)
  refine c_seq ?_
  refine c_cond (decide (t11__s11_l7 < (((List.replicate (Int.toNat ((p0_0).length : Int)) 0 : List Int)).length : Int))) rfl (fun hb => ?_) (fun hb => ?_)
  · replace h := ite_t hb h
    refine c_skip ?_
    refine k_then ?_
    refine c_seq ?_
    refine c_block ?_
    refine c_seq (c_plain ?_)
    refine x_pure 2 [(13, .int .i64 t11__s11_l7), (4, .int .i64 t11__s11_l7)] _ _ _ (by kernel_rfl) ?_
    refine x_end rfl (k_then ?_)
    refine c_plain ?_
    refine x_pure 3 [(14, .slice a5_l7 (d5_l7).length c4), (15, .int .i64 t11__s11_l7), (16, .int .i64 t11__s11_l7)] _ _ _ (by kernel_rfl) ?_
    obtain ⟨x8, hx8, h⟩ := bind_some h
    obtain ⟨g8, cs8, ha, hr8, hc8, hR⟩ := own_index (Mo := []) tsl27 ho4 hx8
    subst ha
    obtain rfl := hR
    refine x_indexAddr (xv := .slice (some ⟨g8, 0, none⟩) (d5_l7).length c4) (yv := .int .i64 t11__s11_l7) (.pointer (some ⟨g8, (Int.toNat t11__s11_l7) * (eInt .i64).n, none⟩)) rfl rfl rfl rfl hr8 ?_
    obtain ⟨w10, hr10, he10, ho10⟩ := own_store (y := t11__s11_l7) 0 (.int .i64 t11__s11_l7) tcell3 ho4 (mem_flat 1 rfl _ (List.mem_singleton.2 rfl)) hx8 rfl rfl (fun _ _ _ hR => set_int hR)
    refine x_store w10 (xv := .pointer (some ⟨g8, (Int.toNat t11__s11_l7) * (eInt .i64).n, none⟩)) (yv := .int .i64 t11__s11_l7) rfl rfl rfl rfl hr10 ?_
    refine ⟨.inl rfl, ?_⟩
    have hst := Stp.ev' (ls := [[b2], blk (some ⟨g8, 0, none⟩), M]) he10 (mem_flat 1 rfl)
    replace hb2 := he10.box hb2 (hms.apart 0 1 rfl rfl rfl _ (List.mem_singleton.2 rfl))
    replace hs_p0_0 := hs_p0_0.step hst
    replace hms := hms.ev he10
    replace hev := hev.then he10 (fun b hb => .inr (hfr.at 1 rfl b hb))
    replace ho4 := ho10
    have hsl : (Value.slice (some ⟨g8, 0, none⟩) (d5_l7).length c4) = (Value.slice (some ⟨g8, 0, none⟩) ((d5_l7.set (Int.toNat t11__s11_l7) t11__s11_l7)).length c4) := by first | (rw [List.length_set]; done) | simp only [List.length_set]
    try rw [hsl]
    clear hsl
    refine x_end rfl ?_
    refine k_block ?_
    refine k_then ?_
    refine c_plain ?_
    refine x_pure 2 [(18, .int .i64 (IntKind.i64.wrap (t11__s11_l7 + 1))), (11, .int .i64 (IntKind.i64.wrap (t11__s11_l7 + 1)))] _ _ _ (by kernel_rfl) ?_
    refine x_end rfl ?_
    have hx := some_inj h
    subst hx
    exact k_then ⟨(m7, (d5_l7.set (Int.toNat t11__s11_l7) t11__s11_l7), IntKind.i64.wrap (t11__s11_l7 + 1), (some ⟨g8, 0, none⟩)), ⟨rfl, rfl, rfl, rfl, trivial⟩, ⟨hn7, hev, hms, hfr, hs_p0_0, hb2, ho4⟩, Nat.lt_succ_self _⟩
  replace h := ite_f hb h
  refine c_exit ?_
  refine k_then_exit ?_
  have hx := some_inj h
  subst hx
  have hy := some_inj hn7
  subst hy
  replace h := h7
  refine k_then_exit ?_
  refine k_block_in ?_
  refine k_then ?_
  refine c_norm [(1, .pointer (some ⟨b2, 0, none⟩)), (3, .slice a5_l7 (d5_l7).length c4)] ⟨rfl, rfl, trivial⟩ (fun J => ?_)
  refine c_seq (c_plain ?_)
  refine x_pure 1 [(19, .slice a5_l7 (d5_l7).length c4)] _ _ _ (by kernel_rfl) ?_
  refine x_makeFunc 67 #[] #[.pointer (some ⟨b2, 0, none⟩)] rfl rfl rfl rfl ?_
  obtain ⟨x11, hx, h⟩ := bind_some h
  have hcall := sortF_w (P := Try.prog) Lsortfunc (f := 57) (g := 67) rfl ⟨_, Try.func57, by kernel_rfl, rfl⟩ ⟨_, Try.func67, by kernel_rfl, rfl⟩ [.pointer (some ⟨b2, 0, none⟩)] (T := 3) (fun sx sy => job_byBlock_1 sx sy p0_0 p0_1) ho4 (fun w9 sx sy sr he9 hx9 => by
  · have hst9 := Stp.ev' (ls := [[b2], blk a5_l7, M]) he9 (mem_flat 1 rfl)
    have hms9 := hms.ev he9
    have hpk9 : MS w9 ([[b2]] ++ [M]) := hms9.pick [some 0, some 2] _ rfl
    have hsb0 : ∀ x ∈ fl ([[b2]] ++ [M]), x ∈ fl [[b2], blk a5_l7, M] := pick_sub [some 0, some 2] _ rfl
    have hsb9 : ∀ x ∈ fl ([[b2]] ++ [fl [M]]), x ∈ fl [[b2], blk a5_l7, M] := fun x hx => hsb0 x (fl_unfold x hx)
    exact (job_byBlock_1_w sx sy b2 a_p0_0 c_p0_0 p0_0 p0_1 sr w9 (fl [M]) (hpk9.fold (P := [[b2]])) ((hs_p0_0.step hst9).sub hsb9) (he9.box hb2 (hms.apart 0 1 rfl rfl rfl _ (List.mem_singleton.2 rfl))) hx9).mono (fun v u hh => ⟨hh.2.1, hh.1⟩)) hx
  refine x_call 57 #[] #[] [.slice a5_l7 (d5_l7).length c4, (.func (.func 67) #[] #[.pointer (some ⟨b2, 0, none⟩)])] _ rfl rfl rfl rfl hcall ?_
  rintro v w12 ⟨rfl, he12, hln12, hw12⟩
  clear hcall hx
  refine ⟨.inl rfl, ?_⟩
  have hst := Stp.ev' (ls := [[b2], blk a5_l7, M]) he12 (mem_flat 1 rfl)
  replace hb2 := he12.box hb2 (hms.apart 0 1 rfl rfl rfl _ (List.mem_singleton.2 rfl))
  replace hs_p0_0 := hs_p0_0.step hst
  replace hms := hms.ev he12
  replace hev := hev.then he12 (fun b hb => .inr (hfr.at 1 rfl b hb))
  replace ho4 := hw12 (fl [[b2], blk a5_l7, M])
  have hsl : (Value.slice a5_l7 (d5_l7).length c4) = (Value.slice a5_l7 (x11).length c4) := by first | (rw [hln12]; done) | simp only [hln12]
  try rw [hsl]
  clear hsl
  refine x_end rfl (k_then ?_)
  refine c_seq (c_plain ?_)
  refine x_pure 2 [(22, .slice a5_l7 (x11).length c4), (2, .slice a5_l7 (x11).length c4)] _ _ _ (by kernel_rfl) ?_
  refine x_end rfl (k_then ?_)
  refine c_ret ?_
  refine r_ret (r_vals [.slice a5_l7 (x11).length c4] ⟨rfl, trivial⟩ ?_)
  have hx := some_inj h
  subst hx
  have hmr : MS w12 [blk a5_l7, M] := hms.pick [some 1, some 2] _ rfl
  have hsu : ∀ x ∈ fl [blk a5_l7, M], x ∈ fl [[b2], blk a5_l7, M] := pick_sub [some 1, some 2] _ rfl
  have hfe : FR w.heap.size [blk a5_l7] := hfr.pick [some 1] _ rfl
  exact ⟨a5_l7, c4, rfl, hev, hmr, hfe, ho4.sub hsu⟩
def job_relation_J9 (p1 : Int) (p2 : Int) (t19__s19_j9 : Bool) : Option Int :=
(if t19__s19_j9 = true then
some 0
else
(if (decide (p2 < p1)) = true then
some 2
else
some 1))

def job_relation_J4 (p1 : Int) (p2 : Int) (e10_j4_0 : Int) (e10_j4_1 : Int) (e10_j4_2 : Int) (e10_j4_3 : Int) (e12_j4_0 : Int) (e12_j4_1 : Int) (e12_j4_2 : Int) (e12_j4_3 : Int) : Option Int :=
(if (e10_j4_0 != e12_j4_0) = true then
job_relation_J9 p1 p2 true
else
job_relation_J9 p1 p2 (decide (e10_j4_1 ≥ e12_j4_1)))

def job_relation (p0_0 : List (Int × Int × Int × Int)) (p0_1 : Int) (p1 : Int) (p2 : Int) : Option Int :=
((idx p0_0 p1).bind fun x5 =>
((idx p0_0 p2).bind fun x7 =>
job_relation_J4 p1 p2 x5.1 x5.2.1 x5.2.2.1 x5.2.2.2 x7.1 x7.2.1 x7.2.2.1 x7.2.2.2))

theorem job_relation_w (a_p0_0 : Option Addr) (c_p0_0 : Nat) (p0_0 : List (Int × Int × Int × Int)) (p0_1 : Int) (p1 : Int) (p2 : Int) (r : Int) (w : World) (M : List Nat) (hms : MS w [M]) (hs_p0_0 : SlR (eProd (eInt .i64) (eProd (eInt .i64) (eProd (eInt .i64) (eInt .i64)))) w (fl [M]) a_p0_0 c_p0_0 p0_0) (h : job_relation p0_0 p0_1 p1 p2 = some r) : CallVC Try.prog 64 [.agg #[.slice a_p0_0 (p0_0).length c_p0_0, .int .i64 p0_1], .int .i64 p1, .int .i64 p2] w fun v w' => v = .int .i64 r ∧ Ev [] w w' := by
  refine calls_vc hmx Try.func64 (by kernel_rfl) rfl (rs := [.tmp 6]) rfl (by kernel_rfl) (args := [.agg #[.slice a_p0_0 (p0_0).length c_p0_0, .int .i64 p0_1], .int .i64 p1, .int .i64 p2]) rfl ?_
  have hev : Ev [] w w := Ev.refl _ _
  have hfr : FR w.heap.size [] := FR.nil _
  refine c_seq (c_plain ?_)
  refine x_box (xv := .agg #[.slice a_p0_0 (p0_0).length c_p0_0, .int .i64 p0_1]) rfl rfl rfl (fun b2 w2 hq2 hb2 he2 hz2 => ?_)
  replace hb2 : w2.heap[b2]? = some (.cells #[.slice a_p0_0 (p0_0).length c_p0_0, .int .i64 p0_1] 24 (0, 0)) := hb2
  refine ⟨.inl rfl, ?_⟩
  have hst := Stp.box (ls := [M]) he2 hq2
  replace hs_p0_0 := hs_p0_0.step hst
  replace hms := hms.box he2 hq2 hb2
  replace hfr := hfr.box hev.size hq2
  replace hev := hev.ext he2
  refine x_pure 1 [(6, .int .i64 0)] _ _ _ (by kernel_rfl) ?_
  refine x_end rfl (k_then ?_)
  refine c_join (σ := Int × Int × Int × Int × Int × Int × Int × Int × Nat × Nat) (fun s => match s with | (e10_j4_0, e10_j4_1, e10_j4_2, e10_j4_3, e12_j4_0, e12_j4_1, e12_j4_2, e12_j4_3, b10_j4, b12_j4) => [(1, .int .i64 p1), (2, .int .i64 p2), (7, .pointer (some ⟨b10_j4, 0, none⟩)), (8, .pointer (some ⟨b12_j4, 0, none⟩))]) (fun s w' => match s with | (e10_j4_0, e10_j4_1, e10_j4_2, e10_j4_3, e12_j4_0, e12_j4_1, e12_j4_2, e12_j4_3, b10_j4, b12_j4) => job_relation_J4 p1 p2 e10_j4_0 e10_j4_1 e10_j4_2 e10_j4_3 e12_j4_0 e12_j4_1 e12_j4_2 e12_j4_3 = some r ∧ Ev [] w w' ∧ MS w' [[b10_j4], [b12_j4], M] ∧ FR w.heap.size [[b10_j4], [b12_j4]] ∧ w'.heap[b10_j4]? = some (.cells #[.int .i64 e10_j4_0, .int .i64 e10_j4_1, .int .i64 e10_j4_2, .int .i64 e10_j4_3] 26 (0, 0)) ∧ w'.heap[b12_j4]? = some (.cells #[.int .i64 e12_j4_0, .int .i64 e12_j4_1, .int .i64 e12_j4_2, .int .i64 e12_j4_3] 26 (0, 0))) ?_ ?_
  · refine c_drawnp (newmo (w2).drew) [(0, false), (1, false), (2, false), (3, false), (4, false), (5, false), (6, false), (7, false), (8, false), (9, false)] (.alt 10 false (opsThen [(11, false), (12, false), (13, true)] .stop) (.alt 11 false (opsThen [(10, false), (12, false), (13, true)] .stop) .none_)) _ (by kernel_rfl) rfl ?_
    have hst := Stp.ext (ls := [[b2], M]) (Ev.drew w2)
    replace hs_p0_0 := hs_p0_0.step hst
    replace hb2 := (Ev.drew w2).box hb2 nn
    replace hms := hms.ev (Ev.drew w2)
    replace hev := hev.ext (Ev.drew w2)
    have hnz : ((w2).drew).heap.size = ((w2).drew).heap.size + 0 := rfl
    refine x_fieldAddr (xv := .pointer (some ⟨b2, 0, none⟩)) (.pointer (some ⟨b2, 0, none⟩)) rfl rfl rfl (reads_field tfld24_0 _ _) ?_
    refine x_load (xv := .pointer (some ⟨b2, 0, none⟩)) (.slice a_p0_0 (p0_0).length c_p0_0) rfl rfl rfl (reads_box tcell22 hb2 ((newmo_out (hms.ltat 0 rfl)) _ (List.mem_singleton.2 rfl)) 0 _ rfl) ?_
    refine x_pure 1 [(11, .int .i64 p1)] _ _ _ (by kernel_rfl) ?_
    obtain ⟨x5, hx5, h⟩ := bind_some h
    obtain ⟨ad5, cs5, hr5, hc5, hR⟩ := reads_index (Mo := (newmo (w2).drew)) tsl22 hs_p0_0 hx5
    obtain ⟨_, _, rfl, rfl, ⟨_, _, rfl, rfl, ⟨_, _, rfl, rfl, rfl⟩⟩⟩ := hR
    refine x_indexAddr (xv := .slice a_p0_0 (p0_0).length c_p0_0) (yv := .int .i64 p1) (.pointer (some ad5)) rfl rfl rfl rfl hr5 ?_
    refine x_load (xv := .pointer (some ad5)) (.agg #[.int .i64 x5.1, .int .i64 x5.2.1, .int .i64 x5.2.2.1, .int .i64 x5.2.2.2]) rfl rfl rfl (reads_agg tagg26 (CellsAt.newer hc5) (fun b hb => hb)) ?_
    refine x_fieldAddr (xv := .pointer (some ⟨b2, 0, none⟩)) (.pointer (some ⟨b2, 0, none⟩)) rfl rfl rfl (reads_field tfld24_0 _ _) ?_
    refine x_load (xv := .pointer (some ⟨b2, 0, none⟩)) (.slice a_p0_0 (p0_0).length c_p0_0) rfl rfl rfl (reads_box tcell22 hb2 ((newmo_out (hms.ltat 0 rfl)) _ (List.mem_singleton.2 rfl)) 0 _ rfl) ?_
    refine x_pure 1 [(16, .int .i64 p2)] _ _ _ (by kernel_rfl) ?_
    obtain ⟨x7, hx7, h⟩ := bind_some h
    obtain ⟨ad7, cs7, hr7, hc7, hR⟩ := reads_index (Mo := (newmo (w2).drew)) tsl22 hs_p0_0 hx7
    obtain ⟨_, _, rfl, rfl, ⟨_, _, rfl, rfl, ⟨_, _, rfl, rfl, rfl⟩⟩⟩ := hR
    refine x_indexAddr (xv := .slice a_p0_0 (p0_0).length c_p0_0) (yv := .int .i64 p2) (.pointer (some ad7)) rfl rfl rfl rfl hr7 ?_
    refine x_load (xv := .pointer (some ad7)) (.agg #[.int .i64 x7.1, .int .i64 x7.2.1, .int .i64 x7.2.2.1, .int .i64 x7.2.2.2]) rfl rfl rfl (reads_agg tagg26 (CellsAt.newer hc7) (fun b hb => hb)) ?_
    refine x_end rfl ?_
    refine t_alt _ rfl ?_ ?_
    · refine x_alloc (z := .agg #[.int .i64 0, .int .i64 0, .int .i64 0, .int .i64 0]) rfl rfl (by kernel_rfl) (fun b9 w9 hq9 hb9 he9 hz9 => ?_)
      replace hb9 : w9.heap[b9]? = some (.cells #[.int .i64 0, .int .i64 0, .int .i64 0, .int .i64 0] 26 (0, 0)) := hb9
      refine ⟨.inr (he9.nil), ?_⟩
      have hns9 : w9.heap.size = b9 + 1 := hz9
      have hnb9 : b9 = ((w2).drew).heap.size + 0 := by omega
      replace hnz : w9.heap.size = ((w2).drew).heap.size + 1 := by omega
      have hst := Stp.box (ls := [[b2], M]) he9 hq9
      replace hs_p0_0 := hs_p0_0.step hst
      replace hb2 := he9.box hb2 nn
      replace hc5 := hc5.step hst
      replace hc7 := hc7.step hst
      replace hms := hms.box he9 hq9 hb9
      replace hfr := hfr.box hev.size hq9
      replace hev := hev.ext he9
      refine x_alloc (z := .agg #[.int .i64 0, .int .i64 0, .int .i64 0, .int .i64 0]) rfl rfl (by kernel_rfl) (fun b11 w11 hq11 hb11 he11 hz11 => ?_)
      replace hb11 : w11.heap[b11]? = some (.cells #[.int .i64 0, .int .i64 0, .int .i64 0, .int .i64 0] 26 (0, 0)) := hb11
      refine ⟨.inr (he11.nil), ?_⟩
      have hns11 : w11.heap.size = b11 + 1 := hz11
      have hnb11 : b11 = ((w2).drew).heap.size + 1 := by omega
      replace hnz : w11.heap.size = ((w2).drew).heap.size + 2 := by omega
      have hst := Stp.box (ls := [[b9], [b2], M]) he11 hq11
      replace hs_p0_0 := hs_p0_0.step hst
      replace hb2 := he11.box hb2 nn
      replace hc5 := hc5.step hst
      replace hc7 := hc7.step hst
      replace hb9 := he11.box hb9 nn
      replace hms := hms.box he11 hq11 hb11
      replace hfr := hfr.box hev.size hq11
      replace hev := hev.ext he11
      obtain ⟨w13, hr13, hb13, he13⟩ := store_boxagg 0 [.int .i64 x5.1, .int .i64 x5.2.1, .int .i64 x5.2.2.1, .int .i64 x5.2.2.2] #[.int .i64 x5.1, .int .i64 x5.2.1, .int .i64 x5.2.2.1, .int .i64 x5.2.2.2] tagg26 hb9 rfl rfl rfl
      refine x_store w13 (xv := .pointer (some ⟨b9, 0, none⟩)) (yv := .agg #[.int .i64 x5.1, .int .i64 x5.2.1, .int .i64 x5.2.2.1, .int .i64 x5.2.2.2]) rfl rfl rfl rfl hr13 ?_
      refine ⟨.inr (he13.sub (fun x hx => by simp only [List.mem_singleton] at hx; subst hx; exact newmo_mem hnb9 rfl)), ?_⟩
      have hst := Stp.ev' (ls := [[b11], [b9], [b2], M]) he13 (mem_flat 1 rfl)
      replace hs_p0_0 := hs_p0_0.step hst
      replace hb2 := he13.box hb2 (hms.apart 2 1 rfl rfl rfl _ (List.mem_singleton.2 rfl))
      replace hc5 := hc5.step hst
      replace hc7 := hc7.step hst
      replace hb11 := he13.box hb11 (hms.apart 0 1 rfl rfl rfl _ (List.mem_singleton.2 rfl))
      replace hms := hms.ev he13
      replace hev := hev.then he13 (fun b hb => .inr (hfr.at 1 rfl b hb))
      replace hb9 := hb13
      obtain ⟨w14, hr14, hb14, he14⟩ := store_boxagg 0 [.int .i64 x7.1, .int .i64 x7.2.1, .int .i64 x7.2.2.1, .int .i64 x7.2.2.2] #[.int .i64 x7.1, .int .i64 x7.2.1, .int .i64 x7.2.2.1, .int .i64 x7.2.2.2] tagg26 hb11 rfl rfl rfl
      refine x_store w14 (xv := .pointer (some ⟨b11, 0, none⟩)) (yv := .agg #[.int .i64 x7.1, .int .i64 x7.2.1, .int .i64 x7.2.2.1, .int .i64 x7.2.2.2]) rfl rfl rfl rfl hr14 ?_
      refine ⟨.inl rfl, ?_⟩
      have hst := Stp.ev' (ls := [[b11], [b9], [b2], M]) he14 (mem_flat 0 rfl)
      replace hs_p0_0 := hs_p0_0.step hst
      replace hb2 := he14.box hb2 (hms.apart 2 0 rfl rfl rfl _ (List.mem_singleton.2 rfl))
      replace hc5 := hc5.step hst
      replace hc7 := hc7.step hst
      replace hb9 := he14.box hb9 (hms.apart 1 0 rfl rfl rfl _ (List.mem_singleton.2 rfl))
      replace hms := hms.ev he14
      replace hev := hev.then he14 (fun b hb => .inr (hfr.at 0 rfl b hb))
      replace hb11 := hb14
      refine x_end rfl ?_
      refine t_stop ?_
      have hpk : MS w14 [[b9], [b11], M] := hms.pick [some 1, some 0, some 3] _ rfl
      have hsu : ∀ x ∈ fl [[b9], [b11], M], x ∈ fl [[b11], [b9], [b2], M] := pick_sub [some 1, some 0, some 3] _ rfl
      replace hms := hpk
      replace hfr : FR w.heap.size [[b9], [b11]] := hfr.pick [some 1, some 0] _ rfl
      clear hpk hsu
      exact k_then ⟨(x5.1, x5.2.1, x5.2.2.1, x5.2.2.2, x7.1, x7.2.1, x7.2.2.1, x7.2.2.2, b9, b11), ⟨rfl, rfl, rfl, rfl, trivial⟩, h, hev, hms, hfr, hb9, hb11⟩
    refine t_alt _ rfl ?_ ?_
    · refine x_alloc (z := .agg #[.int .i64 0, .int .i64 0, .int .i64 0, .int .i64 0]) rfl rfl (by kernel_rfl) (fun b9 w9 hq9 hb9 he9 hz9 => ?_)
      replace hb9 : w9.heap[b9]? = some (.cells #[.int .i64 0, .int .i64 0, .int .i64 0, .int .i64 0] 26 (0, 0)) := hb9
      refine ⟨.inr (he9.nil), ?_⟩
      have hns9 : w9.heap.size = b9 + 1 := hz9
      have hnb9 : b9 = ((w2).drew).heap.size + 0 := by omega
      replace hnz : w9.heap.size = ((w2).drew).heap.size + 1 := by omega
      have hst := Stp.box (ls := [[b2], M]) he9 hq9
      replace hs_p0_0 := hs_p0_0.step hst
      replace hb2 := he9.box hb2 nn
      replace hc5 := hc5.step hst
      replace hc7 := hc7.step hst
      replace hms := hms.box he9 hq9 hb9
      replace hfr := hfr.box hev.size hq9
      replace hev := hev.ext he9
      refine x_alloc (z := .agg #[.int .i64 0, .int .i64 0, .int .i64 0, .int .i64 0]) rfl rfl (by kernel_rfl) (fun b11 w11 hq11 hb11 he11 hz11 => ?_)
      replace hb11 : w11.heap[b11]? = some (.cells #[.int .i64 0, .int .i64 0, .int .i64 0, .int .i64 0] 26 (0, 0)) := hb11
      refine ⟨.inr (he11.nil), ?_⟩
      have hns11 : w11.heap.size = b11 + 1 := hz11
      have hnb11 : b11 = ((w2).drew).heap.size + 1 := by omega
      replace hnz : w11.heap.size = ((w2).drew).heap.size + 2 := by omega
      have hst := Stp.box (ls := [[b9], [b2], M]) he11 hq11
      replace hs_p0_0 := hs_p0_0.step hst
      replace hb2 := he11.box hb2 nn
      replace hc5 := hc5.step hst
      replace hc7 := hc7.step hst
      replace hb9 := he11.box hb9 nn
      replace hms := hms.box he11 hq11 hb11
      replace hfr := hfr.box hev.size hq11
      replace hev := hev.ext he11
      obtain ⟨w13, hr13, hb13, he13⟩ := store_boxagg 0 [.int .i64 x5.1, .int .i64 x5.2.1, .int .i64 x5.2.2.1, .int .i64 x5.2.2.2] #[.int .i64 x5.1, .int .i64 x5.2.1, .int .i64 x5.2.2.1, .int .i64 x5.2.2.2] tagg26 hb11 rfl rfl rfl
      refine x_store w13 (xv := .pointer (some ⟨b11, 0, none⟩)) (yv := .agg #[.int .i64 x5.1, .int .i64 x5.2.1, .int .i64 x5.2.2.1, .int .i64 x5.2.2.2]) rfl rfl rfl rfl hr13 ?_
      refine ⟨.inr (he13.sub (fun x hx => by simp only [List.mem_singleton] at hx; subst hx; exact newmo_mem hnb11 rfl)), ?_⟩
      have hst := Stp.ev' (ls := [[b11], [b9], [b2], M]) he13 (mem_flat 0 rfl)
      replace hs_p0_0 := hs_p0_0.step hst
      replace hb2 := he13.box hb2 (hms.apart 2 0 rfl rfl rfl _ (List.mem_singleton.2 rfl))
      replace hc5 := hc5.step hst
      replace hc7 := hc7.step hst
      replace hb9 := he13.box hb9 (hms.apart 1 0 rfl rfl rfl _ (List.mem_singleton.2 rfl))
      replace hms := hms.ev he13
      replace hev := hev.then he13 (fun b hb => .inr (hfr.at 0 rfl b hb))
      replace hb11 := hb13
      obtain ⟨w14, hr14, hb14, he14⟩ := store_boxagg 0 [.int .i64 x7.1, .int .i64 x7.2.1, .int .i64 x7.2.2.1, .int .i64 x7.2.2.2] #[.int .i64 x7.1, .int .i64 x7.2.1, .int .i64 x7.2.2.1, .int .i64 x7.2.2.2] tagg26 hb9 rfl rfl rfl
      refine x_store w14 (xv := .pointer (some ⟨b9, 0, none⟩)) (yv := .agg #[.int .i64 x7.1, .int .i64 x7.2.1, .int .i64 x7.2.2.1, .int .i64 x7.2.2.2]) rfl rfl rfl rfl hr14 ?_
      refine ⟨.inl rfl, ?_⟩
      have hst := Stp.ev' (ls := [[b11], [b9], [b2], M]) he14 (mem_flat 1 rfl)
      replace hs_p0_0 := hs_p0_0.step hst
      replace hb2 := he14.box hb2 (hms.apart 2 1 rfl rfl rfl _ (List.mem_singleton.2 rfl))
      replace hc5 := hc5.step hst
      replace hc7 := hc7.step hst
      replace hb11 := he14.box hb11 (hms.apart 0 1 rfl rfl rfl _ (List.mem_singleton.2 rfl))
      replace hms := hms.ev he14
      replace hev := hev.then he14 (fun b hb => .inr (hfr.at 1 rfl b hb))
      replace hb9 := hb14
      refine x_end rfl ?_
      refine t_stop ?_
      have hpk : MS w14 [[b11], [b9], M] := hms.pick [some 0, some 1, some 3] _ rfl
      have hsu : ∀ x ∈ fl [[b11], [b9], M], x ∈ fl [[b11], [b9], [b2], M] := pick_sub [some 0, some 1, some 3] _ rfl
      replace hms := hpk
      replace hfr : FR w.heap.size [[b11], [b9]] := hfr.pick [some 0, some 1] _ rfl
      clear hpk hsu
      exact k_then ⟨(x5.1, x5.2.1, x5.2.2.1, x5.2.2.2, x7.1, x7.2.1, x7.2.2.1, x7.2.2.2, b11, b9), ⟨rfl, rfl, rfl, rfl, trivial⟩, h, hev, hms, hfr, hb11, hb9⟩
    exact t_none
  rintro ⟨e10_j4_0, e10_j4_1, e10_j4_2, e10_j4_3, e12_j4_0, e12_j4_1, e12_j4_2, e12_j4_3, b10_j4, b12_j4⟩ J wj4 ⟨h, hev, hms, hfr, hb10_j4, hb12_j4⟩
  refine c_seq ?_
  refine c_block ?_
  refine c_join (σ := Bool) (fun s => match s with | t19__s19_j9 => [(1, .int .i64 p1), (2, .int .i64 p2), (19, .bool t19__s19_j9)]) (fun s w' => match s with | t19__s19_j9 => job_relation_J9 p1 p2 t19__s19_j9 = some r ∧ Ev [] w w' ∧ MS w' [M] ∧ FR w.heap.size []) ?_ ?_
  · refine c_plain ?_
    refine x_fieldAddr (xv := .pointer (some ⟨b10_j4, 0, none⟩)) (.pointer (some ⟨b10_j4, 0, none⟩)) rfl rfl rfl (reads_field tfld26_0 _ _) ?_
    refine x_load (xv := .pointer (some ⟨b10_j4, 0, none⟩)) (.int .i64 e10_j4_0) rfl rfl rfl (reads_box tcell3 hb10_j4 nn 0 _ rfl) ?_
    refine x_fieldAddr (xv := .pointer (some ⟨b12_j4, 0, none⟩)) (.pointer (some ⟨b12_j4, 0, none⟩)) rfl rfl rfl (reads_field tfld26_0 _ _) ?_
    refine x_load (xv := .pointer (some ⟨b12_j4, 0, none⟩)) (.int .i64 e12_j4_0) rfl rfl rfl (reads_box tcell3 hb12_j4 nn 0 _ rfl) ?_
    refine x_pure 2 [(24, .bool (e10_j4_0 != e12_j4_0)), (25, .bool (e10_j4_0 != e12_j4_0))] _ _ _ (by kernel_rfl) ?_
    refine x_split 25 (e10_j4_0 != e12_j4_0) rfl (fun hb => ?_) (fun hb => ?_)
    · replace h := ite_t hb h
      refine x_pure 7 [(26, undef), (27, undef), (28, undef), (29, undef), (30, undef), (31, .bool true), (19, .bool true)] _ _ _ (by kernel_rfl) ?_
      refine x_end rfl ?_
      have hpk : MS wj4 [M] := hms.pick [some 2] _ rfl
      have hsu : ∀ x ∈ fl [M], x ∈ fl [[b10_j4], [b12_j4], M] := pick_sub [some 2] _ rfl
      replace hms := hpk
      replace hfr : FR w.heap.size [] := hfr.pick [] _ rfl
      clear hpk hsu
      exact k_then ⟨true, ⟨rfl, rfl, rfl, trivial⟩, h, hev, hms, hfr⟩
    replace h := ite_f hb h
    refine x_fieldAddr (xv := .pointer (some ⟨b10_j4, 0, none⟩)) (.pointer (some ⟨b10_j4, 1, none⟩)) rfl rfl rfl (reads_field tfld26_1 _ _) ?_
    refine x_load (xv := .pointer (some ⟨b10_j4, 1, none⟩)) (.int .i64 e10_j4_1) rfl rfl rfl (reads_box tcell3 hb10_j4 nn 1 _ rfl) ?_
    refine x_fieldAddr (xv := .pointer (some ⟨b12_j4, 0, none⟩)) (.pointer (some ⟨b12_j4, 1, none⟩)) rfl rfl rfl (reads_field tfld26_1 _ _) ?_
    refine x_load (xv := .pointer (some ⟨b12_j4, 1, none⟩)) (.int .i64 e12_j4_1) rfl rfl rfl (reads_box tcell3 hb12_j4 nn 1 _ rfl) ?_
    refine x_pure 3 [(30, .bool (decide (e10_j4_1 ≥ e12_j4_1))), (31, .bool (decide (e10_j4_1 ≥ e12_j4_1))), (19, .bool (decide (e10_j4_1 ≥ e12_j4_1)))] _ _ _ (by kernel_rfl) ?_
    refine x_end rfl ?_
    have hpk : MS wj4 [M] := hms.pick [some 2] _ rfl
    have hsu : ∀ x ∈ fl [M], x ∈ fl [[b10_j4], [b12_j4], M] := pick_sub [some 2] _ rfl
    replace hms := hpk
    replace hfr : FR w.heap.size [] := hfr.pick [] _ rfl
    clear hpk hsu
    exact k_then ⟨decide (e10_j4_1 ≥ e12_j4_1), ⟨rfl, rfl, rfl, trivial⟩, h, hev, hms, hfr⟩
  rintro t19__s19_j9 J wj9 ⟨h, hev, hms, hfr⟩
  refine c_cond t19__s19_j9 rfl (fun hb => ?_) (fun hb => ?_)
  · replace h := ite_t hb h
    refine c_seq (c_plain ?_)
    refine x_pure 1 [(6, .int .i64 0)] _ _ _ (by kernel_rfl) ?_
    refine x_end rfl (k_then ?_)
    refine c_norm [(6, .int .i64 0)] ⟨rfl, trivial⟩ (fun J => ?_)
    refine c_ret ?_
    refine k_block_ret ?_
    refine k_then_ret ?_
    refine r_ret (r_vals [.int .i64 0] ⟨rfl, trivial⟩ ?_)
    have hx := some_inj h
    subst hx
    have hmr : MS wj9 [M] := hms.pick [some 0] _ rfl
    have hsu : ∀ x ∈ fl [M], x ∈ fl [M] := pick_sub [some 0] _ rfl
    exact ⟨rfl, hev⟩
  replace h := ite_f hb h
  refine c_seq (c_plain ?_)
  refine x_pure 4 [(33, .int .i64 p2), (34, .int .i64 p1), (35, .bool (decide (p2 < p1))), (32, .bool (decide (p2 < p1)))] _ _ _ (by kernel_rfl) ?_
  refine x_end rfl (k_then ?_)
  refine c_norm [(32, .bool (decide (p2 < p1)))] ⟨rfl, trivial⟩ (fun J => ?_)
  refine c_cond (decide (p2 < p1)) rfl (fun hb => ?_) (fun hb => ?_)
  · replace h := ite_t hb h
    refine c_seq (c_plain ?_)
    refine x_pure 1 [(6, .int .i64 2)] _ _ _ (by kernel_rfl) ?_
    refine x_end rfl (k_then ?_)
    refine c_ret ?_
    refine k_block_ret ?_
    refine k_then_ret ?_
    refine r_ret (r_vals [.int .i64 2] ⟨rfl, trivial⟩ ?_)
    have hx := some_inj h
    subst hx
    have hmr : MS wj9 [M] := hms.pick [some 0] _ rfl
    have hsu : ∀ x ∈ fl [M], x ∈ fl [M] := pick_sub [some 0] _ rfl
    exact ⟨rfl, hev⟩
  replace h := ite_f hb h
  refine c_skip ?_
  refine k_block ?_
  refine k_then ?_
  refine c_seq (c_plain ?_)
  refine x_pure 1 [(6, .int .i64 1)] _ _ _ (by kernel_rfl) ?_
  refine x_end rfl (k_then ?_)
  refine c_ret ?_
  refine r_ret (r_vals [.int .i64 1] ⟨rfl, trivial⟩ ?_)
  have hx := some_inj h
  subst hx
  have hmr : MS wj9 [M] := hms.pick [some 0] _ rfl
  have hsu : ∀ x ∈ fl [M], x ∈ fl [M] := pick_sub [some 0] _ rfl
  exact ⟨rfl, hev⟩
def job_levels_L13 (p0_0 : List (Int × Int × Int × Int)) (p0_1 : Int) (x11 : Int) (s : (List Int) × Int) : Option (Step ((List Int) × Int) (List Int)) :=
match s with
| (d5_l13, t22__s22_l13) =>
(if (decide (t22__s22_l13 < ((p0_0).length : Int))) = true then
((job_relation p0_0 p0_1 t22__s22_l13 x11).bind fun x15 =>
(if (decide (x15 > 0)) = true then
((idx d5_l13 x11).bind fun x17 =>
((idx d5_l13 t22__s22_l13).bind fun x19 =>
((idx d5_l13 x11).bind fun x21 =>
some (.next ((d5_l13.set (Int.toNat x11) (if (IntKind.i64.wrap ((IntKind.i64.wrap (x19 + x15)) - 1)) > x17 then (IntKind.i64.wrap ((IntKind.i64.wrap (x19 + x15)) - 1)) else x17)), IntKind.i64.wrap (t22__s22_l13 + 1))))))
else
some (.next (d5_l13, IntKind.i64.wrap (t22__s22_l13 + 1)))))
else
some (.done d5_l13))

def job_levels_L9 (p0_0 : List (Int × Int × Int × Int)) (p0_1 : Int) (x6 : (List Int)) (s : (List Int) × Int) : Option (Step ((List Int) × Int) (List Int)) :=
match s with
| (d5_l9, t15__s15_l9) =>
(if (decide (t15__s15_l9 < ((x6).length : Int))) = true then
((idx x6 t15__s15_l9).bind fun x11 =>
((loop (job_levels_L13 p0_0 p0_1 x11) (d5_l9, 0)).bind fun d => match d with
| d5_x13 => some (.next (d5_x13, IntKind.i64.wrap (t15__s15_l9 + 1)))))
else
some (.done d5_l9))

def job_levels (p0_0 : List (Int × Int × Int × Int)) (p0_1 : Int) : Option (List Int) :=
(if (0 : Int) ≤ ((p0_0).length : Int) ∧ (((p0_0).length : Int) : Int) ≤ 4294967296 then
((job_byBlock p0_0 p0_1).bind fun x6 =>
((loop (job_levels_L9 p0_0 p0_1 x6) ((List.replicate (Int.toNat ((p0_0).length : Int)) 0 : List Int), 0)).bind fun d => match d with
| d5_x9 => some d5_x9))
else none)

theorem job_levels_w (a_p0_0 : Option Addr) (c_p0_0 : Nat) (p0_0 : List (Int × Int × Int × Int)) (p0_1 : Int) (r : (List Int)) (w : World) (M : List Nat) (hms : MS w [M]) (hs_p0_0 : SlR (eProd (eInt .i64) (eProd (eInt .i64) (eProd (eInt .i64) (eInt .i64)))) w (fl [M]) a_p0_0 c_p0_0 p0_0) (h : job_levels p0_0 p0_1 = some r) : CallVC Try.prog 54 [.agg #[.slice a_p0_0 (p0_0).length c_p0_0, .int .i64 p0_1]] w fun v w' => ∃ (a0' : Option Addr), ∃ (c0' : Nat), v = .slice a0' (r).length c0' ∧ Ev [] w w' ∧ MS w' [blk a0', M] ∧ FR w.heap.size [blk a0'] ∧ OwnS (eInt .i64) 3 w' (fl [blk a0', M]) a0' c0' r := by
  refine calls_vc hmx Try.func54 (by kernel_rfl) rfl (rs := [.tmp 2]) rfl (by kernel_rfl) (args := [.agg #[.slice a_p0_0 (p0_0).length c_p0_0, .int .i64 p0_1]]) rfl ?_
  have hev : Ev [] w w := Ev.refl _ _
  have hfr : FR w.heap.size [] := FR.nil _
  refine c_seq (c_plain ?_)
  refine x_box (xv := .agg #[.slice a_p0_0 (p0_0).length c_p0_0, .int .i64 p0_1]) rfl rfl rfl (fun b2 w2 hq2 hb2 he2 hz2 => ?_)
  replace hb2 : w2.heap[b2]? = some (.cells #[.slice a_p0_0 (p0_0).length c_p0_0, .int .i64 p0_1] 24 (0, 0)) := hb2
  refine ⟨.inl rfl, ?_⟩
  have hst := Stp.box (ls := [M]) he2 hq2
  replace hs_p0_0 := hs_p0_0.step hst
  replace hms := hms.box he2 hq2 hb2
  replace hfr := hfr.box hev.size hq2
  replace hev := hev.ext he2
  refine x_pure 1 [(2, .slice none 0 0)] _ _ _ (by kernel_rfl) ?_
  refine x_end rfl (k_then ?_)
  refine c_seq (c_plain ?_)
  refine x_fieldAddr (xv := .pointer (some ⟨b2, 0, none⟩)) (.pointer (some ⟨b2, 0, none⟩)) rfl rfl rfl (reads_field tfld24_0 _ _) ?_
  refine x_load (xv := .pointer (some ⟨b2, 0, none⟩)) (.slice a_p0_0 (p0_0).length c_p0_0) rfl rfl rfl (reads_box tcell22 hb2 nn 0 _ rfl) ?_
  refine x_len (vs := [.slice a_p0_0 (p0_0).length c_p0_0]) (.int .i64 ((p0_0).length : Int)) rfl rfl rfl (reads_len tsl22 _ _ _ _ _) ?_
  have hg := guard_l h
  replace h := guard_r h
  obtain ⟨a4, c4, w4, hr4, he4, hn4, hw4⟩ := own_make (e := (eInt .i64)) tel27 w2 ((p0_0).length : Int) hg.1 hg.2 0 (fun _ _ => rfl)
  refine x_makeSlice _ w4 (xv := .int .i64 ((p0_0).length : Int)) (yv := .int .i64 ((p0_0).length : Int)) rfl rfl rfl rfl hr4 ?_
  refine ⟨.inl rfl, ?_⟩
  have hst := Stp.push (ls := [[b2], M]) (l := blk a4) he4 (fun _ h => by cases h) (fun b hb => (hn4 b hb).1)
  replace hs_p0_0 := hs_p0_0.step hst
  replace hb2 := he4.box hb2 nn
  replace hms := hms.push he4 hn4
  replace hfr := hfr.push (fun b hb => Nat.le_trans hev.size (hn4 b hb).1)
  replace hev := hev.ext he4
  have ho4 := hw4 (fl [blk a4, [b2], M])
  clear hw4
  refine x_pure 1 [(3, .slice a4 ((List.replicate (Int.toNat ((p0_0).length : Int)) 0 : List Int)).length c4)] _ _ _ (by kernel_rfl) ?_
  refine x_end rfl (k_then ?_)
  refine c_seq ?_
  refine c_seq (c_plain ?_)
  refine x_load (xv := .pointer (some ⟨b2, 0, none⟩)) (.agg #[.slice a_p0_0 (p0_0).length c_p0_0, .int .i64 p0_1]) rfl rfl rfl (reads_boxagg 0 [.slice a_p0_0 (p0_0).length c_p0_0, .int .i64 p0_1] tagg24 hb2 nn rfl) ?_
  obtain ⟨x6, hx, h⟩ := bind_some h
  have hpk : MS w4 ([] ++ [blk a4, [b2], M]) := hms.pick [some 0, some 1, some 2] _ rfl
  have hsb0 : ∀ x ∈ fl ([] ++ [blk a4, [b2], M]), x ∈ fl [blk a4, [b2], M] := pick_sub [some 0, some 1, some 2] _ rfl
  have hsb : ∀ x ∈ fl ([] ++ [(fl [blk a4, [b2], M])]), x ∈ fl [blk a4, [b2], M] := fun x hx => hsb0 x (fl_unfold x hx)
  have hcall := job_byBlock_w a_p0_0 c_p0_0 p0_0 p0_1 _ w4 (fl [blk a4, [b2], M]) (MS.fold (P := []) hpk) (hs_p0_0.sub hsb) hx
  refine x_call 63 #[] #[] [.agg #[.slice a_p0_0 (p0_0).length c_p0_0, .int .i64 p0_1]] _ rfl rfl rfl rfl hcall ?_
  rintro v w7 ⟨a0_7, c0_7, rfl, he7, hmn7, hfn7, hf7_1⟩
  clear hcall hx
  refine ⟨.inl rfl, ?_⟩
  have hpk2 : MS w4 ([] ++ [blk a4, [b2], M]) := hms.pick [some 0, some 1, some 2] _ rfl
  have hsb2 : ∀ x ∈ fl ([] ++ [blk a4, [b2], M]), x ∈ fl [blk a4, [b2], M] := pick_sub [some 0, some 1, some 2] _ rfl
  have hst0 := Stp.call (LS := [blk a4, [b2], M]) (res := [blk a0_7]) (par := []) (R := [blk a4, [b2], M]) he7 (fun b hb => hsb2 b (fl_left' (P := []) b hb)) hfn7 (NP.init _ _) (fun x hx => hsb2 x (fl_right' (P := []) x hx))
  have hsn : ∀ x ∈ fl [blk a0_7, blk a4, [b2], M], x ∈ fl ([blk a0_7] ++ ([] ++ [blk a4, [b2], M])) := pick_sub [some 0, some 1, some 2, some 3] _ rfl
  have hst := hst0.res hsn
  replace hs_p0_0 := hs_p0_0.step hst
  replace hb2 := he7.box hb2 ((MS.outs (P := []) hpk2 1 rfl) _ (List.mem_singleton.2 rfl))
  replace ho4 := ho4.step hst he7 (MS.outs (P := []) hpk2 0 rfl)
  replace hms : MS w7 [blk a0_7, blk a4, [b2], M] := (MS.call (P := []) (R := [blk a4, [b2], M]) (res := [blk a0_7]) (par := []) hpk2 he7 hmn7 hfn7 (NP.init _ _)).pick [some 0, some 1, some 2, some 3] _ rfl
  have hfr2 : FR w.heap.size [blk a0_7, blk a4, [b2]] := (FR.cons (fun b hb => Nat.le_trans hev.size (hfn7.at 0 rfl b hb)) (FR.cons (hfr.at 0 rfl) (FR.cons (hfr.at 1 rfl) (FR.nil _))))
  replace hev := hev.ext he7
  replace hfr := hfr2
  clear hfr2
  replace hf7_1 := OwnS.plain (M' := fl [blk a0_7, blk a4, [b2], M]) (plain_int _) hf7_1
  clear hpk hsb hsb0 hpk2 hsb2 hst0 hsn hst
  refine x_len (vs := [.slice a0_7 (x6).length c0_7]) (.int .i64 ((x6).length : Int)) rfl rfl rfl (reads_len tsl27 _ _ _ _ _) ?_
  refine x_pure 1 [(15, .int .i64 0)] _ _ _ (by kernel_rfl) ?_
  refine x_end rfl (k_then ?_)
  refine c_block ?_
  have hpk : MS w7 [[b2], blk a4, blk a0_7, M] := hms.pick [some 2, some 1, some 0, some 3] _ rfl
  have hsu : ∀ x ∈ fl [[b2], blk a4, blk a0_7, M], x ∈ fl [blk a0_7, blk a4, [b2], M] := pick_sub [some 2, some 1, some 0, some 3] _ rfl
  replace hs_p0_0 := hs_p0_0.sub hsu
  replace ho4 := ho4.sub hsu
  replace hf7_1 := hf7_1.sub hsu
  replace hms := hpk
  replace hfr : FR w.heap.size [[b2], blk a4, blk a0_7] := hfr.pick [some 2, some 1, some 0] _ rfl
  clear hpk hsu
  obtain ⟨d9, hd9, h9⟩ := bind_some h
  obtain ⟨m9, hd9⟩ := loop_some hd9
  refine c_loop (loop_rule hmx (σ := Nat × (List Int) × Int × Option Addr × Option Addr) (fun s => match s with | (_, d5_l9, t15__s15_l9, a5_l9, a8_l9) => [(1, .pointer (some ⟨b2, 0, none⟩)), (3, .slice a5_l9 (d5_l9).length c4), (13, .slice a8_l9 (x6).length c0_7), (14, .int .i64 ((x6).length : Int)), (15, .int .i64 t15__s15_l9)]) (fun s w' => match s with | (m, d5_l9, t15__s15_l9, a5_l9, a8_l9) => loopN (job_levels_L9 p0_0 p0_1 x6) m (d5_l9, t15__s15_l9) = some d9 ∧ Ev [] w w' ∧ MS w' [[b2], blk a5_l9, blk a8_l9, M] ∧ FR w.heap.size [[b2], blk a5_l9, blk a8_l9] ∧ SlR (eProd (eInt .i64) (eProd (eInt .i64) (eProd (eInt .i64) (eInt .i64)))) w' (fl [[b2], blk a5_l9, blk a8_l9, M]) a_p0_0 c_p0_0 p0_0 ∧ w'.heap[b2]? = some (.cells #[.slice a_p0_0 (p0_0).length c_p0_0, .int .i64 p0_1] 24 (0, 0)) ∧ OwnS (eInt .i64) 3 w' (fl [[b2], blk a5_l9, blk a8_l9, M]) a5_l9 c4 d5_l9 ∧ OwnS (eInt .i64) 3 w' (fl [[b2], blk a5_l9, blk a8_l9, M]) a8_l9 c0_7 x6) (fun s => s.1) (m9, (List.replicate (Int.toNat ((p0_0).length : Int)) 0 : List Int), 0, a4, a0_7) ⟨rfl, rfl, rfl, rfl, rfl, trivial⟩ ⟨hd9, hev, hms, hfr, hs_p0_0, hb2, ho4, hf7_1⟩ ?_)
  rintro ⟨m9, d5_l9, t15__s15_l9, a5_l9, a8_l9⟩ J wl9 ⟨hn9, hev, hms, hfr, hs_p0_0, hb2, ho4, hf7_1⟩
  rcases m9 with _ | m9
  · exact (loopN_zero hn9).elim
  obtain ⟨t9, h, hn9⟩ := bind_some hn9
  refine c_seq (c_plain ?_)
  refine x_pure 1 [(16, .bool (decide (t15__s15_l9 < ((x6).length : Int))))] _ _ _ (by kernel_rfl) ?_
  refine x_end rfl (k_then ?_)
  refine c_norm [(1, .pointer (some ⟨b2, 0, none⟩)), (3, .slice a5_l9 (d5_l9).length c4), (13, .slice a8_l9 (x6).length c0_7), (14, .int .i64 ((x6).length : Int)), (15, .int .i64 t15__s15_l9), (16, .bool (decide (t15__s15_l9 < ((x6).length : Int))))] ⟨rfl, rfl, rfl, rfl, rfl, rfl, trivial⟩ (fun J => ?_)
  refine c_seq ?_
  refine c_cond (decide (t15__s15_l9 < ((x6).length : Int))) rfl (fun hb => ?_) (fun hb => ?_)
  · replace h := ite_t hb h
    refine c_skip ?_
    refine k_then ?_
    refine c_seq ?_
    refine c_block ?_
    refine c_seq (c_plain ?_)
    obtain ⟨x11, hx11, h⟩ := bind_some h
    obtain ⟨g11, cs11, ha, hr11, hc11, hR⟩ := own_index (Mo := []) tsl27 hf7_1 hx11
    subst ha
    obtain rfl := hR
    refine x_indexAddr (xv := .slice (some ⟨g11, 0, none⟩) (x6).length c0_7) (yv := .int .i64 t15__s15_l9) (.pointer (some ⟨g11, (Int.toNat t15__s15_l9) * (eInt .i64).n, none⟩)) rfl rfl rfl rfl hr11 ?_
    refine x_load (xv := .pointer (some ⟨g11, (Int.toNat t15__s15_l9) * (eInt .i64).n, none⟩)) (.int .i64 x11) rfl rfl rfl (reads_cell0 tcell3 hc11 (fun _ h => by cases h)) ?_
    refine x_pure 1 [(5, .int .i64 x11)] _ _ _ (by kernel_rfl) ?_
    refine x_end rfl (k_then ?_)
    refine c_seq (c_plain ?_)
    refine x_fieldAddr (xv := .pointer (some ⟨b2, 0, none⟩)) (.pointer (some ⟨b2, 0, none⟩)) rfl rfl rfl (reads_field tfld24_0 _ _) ?_
    refine x_load (xv := .pointer (some ⟨b2, 0, none⟩)) (.slice a_p0_0 (p0_0).length c_p0_0) rfl rfl rfl (reads_box tcell22 hb2 nn 0 _ rfl) ?_
    refine x_len (vs := [.slice a_p0_0 (p0_0).length c_p0_0]) (.int .i64 ((p0_0).length : Int)) rfl rfl rfl (reads_len tsl22 _ _ _ _ _) ?_
    refine x_pure 1 [(22, .int .i64 0)] _ _ _ (by kernel_rfl) ?_
    refine x_end rfl (k_then ?_)
    refine c_block ?_
    obtain ⟨d13, hd13, h13⟩ := bind_some h
    obtain ⟨m13, hd13⟩ := loop_some hd13
    refine c_loop (loop_rule hmx (σ := Nat × (List Int) × Int × Option Addr) (fun s => match s with | (_, d5_l13, t22__s22_l13, a5_l13) => [(1, .pointer (some ⟨b2, 0, none⟩)), (3, .slice a5_l13 (d5_l13).length c4), (5, .int .i64 x11), (13, .slice (some ⟨g11, 0, none⟩) (x6).length c0_7), (14, .int .i64 ((x6).length : Int)), (15, .int .i64 t15__s15_l9), (21, .int .i64 ((p0_0).length : Int)), (22, .int .i64 t22__s22_l13)]) (fun s w' => match s with | (m, d5_l13, t22__s22_l13, a5_l13) => loopN (job_levels_L13 p0_0 p0_1 x11) m (d5_l13, t22__s22_l13) = some d13 ∧ Ev [] w w' ∧ MS w' [[b2], blk a5_l13, blk (some ⟨g11, 0, none⟩), M] ∧ FR w.heap.size [[b2], blk a5_l13, blk (some ⟨g11, 0, none⟩)] ∧ SlR (eProd (eInt .i64) (eProd (eInt .i64) (eProd (eInt .i64) (eInt .i64)))) w' (fl [[b2], blk a5_l13, blk (some ⟨g11, 0, none⟩), M]) a_p0_0 c_p0_0 p0_0 ∧ w'.heap[b2]? = some (.cells #[.slice a_p0_0 (p0_0).length c_p0_0, .int .i64 p0_1] 24 (0, 0)) ∧ OwnS (eInt .i64) 3 w' (fl [[b2], blk a5_l13, blk (some ⟨g11, 0, none⟩), M]) a5_l13 c4 d5_l13 ∧ OwnS (eInt .i64) 3 w' (fl [[b2], blk a5_l13, blk (some ⟨g11, 0, none⟩), M]) (some ⟨g11, 0, none⟩) c0_7 x6) (fun s => s.1) (m13, d5_l9, 0, a5_l9) ⟨rfl, rfl, rfl, rfl, rfl, rfl, rfl, rfl, trivial⟩ ⟨hd13, hev, hms, hfr, hs_p0_0, hb2, ho4, hf7_1⟩ ?_)
    rintro ⟨m13, d5_l13, t22__s22_l13, a5_l13⟩ J wl13 ⟨hn13, hev, hms, hfr, hs_p0_0, hb2, ho4, hf7_1⟩
    rcases m13 with _ | m13
    · exact (loopN_zero hn13).elim
    obtain ⟨t13, h, hn13⟩ := bind_some hn13
    refine c_seq (c_plain ?_)
    refine x_pure 1 [(23, .bool (decide (t22__s22_l13 < ((p0_0).length : Int))))] _ _ _ (by kernel_rfl) ?_
    refine x_end rfl (k_then ?_)
    refine c_norm [(1, .pointer (some ⟨b2, 0, none⟩)), (3, .slice a5_l13 (d5_l13).length c4), (5, .int .i64 x11), (13, .slice (some ⟨g11, 0, none⟩) (x6).length c0_7), (14, .int .i64 ((x6).length : Int)), (15, .int .i64 t15__s15_l9), (21, .int .i64 ((p0_0).length : Int)), (22, .int .i64 t22__s22_l13), (23, .bool (decide (t22__s22_l13 < ((p0_0).length : Int))))] ⟨rfl, rfl, rfl, rfl, rfl, rfl, rfl, rfl, rfl, trivial⟩ (fun J => ?_)
    refine c_seq ?_
    refine c_cond (decide (t22__s22_l13 < ((p0_0).length : Int))) rfl (fun hb => ?_) (fun hb => ?_)
    · replace h := ite_t hb h
      refine c_skip ?_
      refine k_then ?_
      refine c_seq ?_
      refine c_block ?_
      refine c_seq (c_plain ?_)
      refine x_pure 2 [(24, .int .i64 t22__s22_l13), (6, .int .i64 t22__s22_l13)] _ _ _ (by kernel_rfl) ?_
      refine x_end rfl (k_then ?_)
      refine c_seq (c_plain ?_)
      refine x_load (xv := .pointer (some ⟨b2, 0, none⟩)) (.agg #[.slice a_p0_0 (p0_0).length c_p0_0, .int .i64 p0_1]) rfl rfl rfl (reads_boxagg 0 [.slice a_p0_0 (p0_0).length c_p0_0, .int .i64 p0_1] tagg24 hb2 nn rfl) ?_
      refine x_pure 2 [(26, .int .i64 t22__s22_l13), (27, .int .i64 x11)] _ _ _ (by kernel_rfl) ?_
      obtain ⟨x15, hx, h⟩ := bind_some h
      have hpk : MS wl13 ([] ++ [[b2], blk a5_l13, blk (some ⟨g11, 0, none⟩), M]) := hms.pick [some 0, some 1, some 2, some 3] _ rfl
      have hsb0 : ∀ x ∈ fl ([] ++ [[b2], blk a5_l13, blk (some ⟨g11, 0, none⟩), M]), x ∈ fl [[b2], blk a5_l13, blk (some ⟨g11, 0, none⟩), M] := pick_sub [some 0, some 1, some 2, some 3] _ rfl
      have hsb : ∀ x ∈ fl ([] ++ [(fl [[b2], blk a5_l13, blk (some ⟨g11, 0, none⟩), M])]), x ∈ fl [[b2], blk a5_l13, blk (some ⟨g11, 0, none⟩), M] := fun x hx => hsb0 x (fl_unfold x hx)
      have hcall := job_relation_w a_p0_0 c_p0_0 p0_0 p0_1 t22__s22_l13 x11 _ wl13 (fl [[b2], blk a5_l13, blk (some ⟨g11, 0, none⟩), M]) (MS.fold (P := []) hpk) (hs_p0_0.sub hsb) hx
      refine x_call 64 #[] #[] [.agg #[.slice a_p0_0 (p0_0).length c_p0_0, .int .i64 p0_1], .int .i64 t22__s22_l13, .int .i64 x11] _ rfl rfl rfl rfl hcall ?_
      rintro v w16 ⟨rfl, he16⟩
      clear hcall hx
      refine ⟨.inl rfl, ?_⟩
      have hst := Stp.ext (ls := [[b2], blk a5_l13, blk (some ⟨g11, 0, none⟩), M]) he16
      replace hb2 := he16.box hb2 nn
      replace hs_p0_0 := hs_p0_0.step hst
      replace ho4 := ho4.step hst he16 nn2
      replace hf7_1 := hf7_1.step hst he16 nn2
      replace hms := hms.ev he16
      replace hev := hev.ext he16
      clear hpk hsb hsb0
      refine x_pure 1 [(7, .int .i64 x15)] _ _ _ (by kernel_rfl) ?_
      refine x_end rfl (k_then ?_)
      refine c_seq (c_plain ?_)
      refine x_pure 2 [(29, .int .i64 x15), (30, .bool (decide (x15 > 0)))] _ _ _ (by kernel_rfl) ?_
      refine x_end rfl (k_then ?_)
      refine c_cond (decide (x15 > 0)) rfl (fun hb => ?_) (fun hb => ?_)
      · replace h := ite_t hb h
        refine c_drawn [] [(0, false), (1, false), (2, false), (3, false), (4, false), (5, false), (6, false), (7, false), (8, false), (9, false), (10, false), (11, false), (12, false), (13, false), (14, false), (15, true)] _ (by kernel_rfl) rfl ?_
        have hst := Stp.ext (ls := [[b2], blk a5_l13, blk (some ⟨g11, 0, none⟩), M]) (Ev.drew w16)
        replace hb2 := (Ev.drew w16).box hb2 nn
        replace hs_p0_0 := hs_p0_0.step hst
        replace ho4 := ho4.step hst (Ev.drew w16) nn2
        replace hf7_1 := hf7_1.step hst (Ev.drew w16) nn2
        replace hms := hms.ev (Ev.drew w16)
        replace hev := hev.ext (Ev.drew w16)
        refine x_pure 4 [(31, .slice a5_l13 (d5_l13).length c4), (32, .int .i64 x11), (33, .slice a5_l13 (d5_l13).length c4), (34, .int .i64 x11)] _ _ _ (by kernel_rfl) ?_
        obtain ⟨x17, hx17, h⟩ := bind_some h
        obtain ⟨g17, cs17, ha, hr17, hc17, hR⟩ := own_index (Mo := []) tsl27 ho4 hx17
        subst ha
        obtain rfl := hR
        refine x_indexAddr (xv := .slice (some ⟨g17, 0, none⟩) (d5_l13).length c4) (yv := .int .i64 x11) (.pointer (some ⟨g17, (Int.toNat x11) * (eInt .i64).n, none⟩)) rfl rfl rfl rfl hr17 ?_
        refine x_load (xv := .pointer (some ⟨g17, (Int.toNat x11) * (eInt .i64).n, none⟩)) (.int .i64 x17) rfl rfl rfl (reads_cell0 tcell3 hc17 (fun _ h => by cases h)) ?_
        refine x_pure 2 [(37, .slice (some ⟨g17, 0, none⟩) (d5_l13).length c4), (38, .int .i64 t22__s22_l13)] _ _ _ (by kernel_rfl) ?_
        obtain ⟨x19, hx19, h⟩ := bind_some h
        obtain ⟨g19, cs19, ha, hr19, hc19, hR⟩ := own_index (Mo := []) tsl27 ho4 hx19
        have hg : g17 = g19 := by cases ha; rfl
        subst hg
        obtain rfl := hR
        refine x_indexAddr (xv := .slice (some ⟨g17, 0, none⟩) (d5_l13).length c4) (yv := .int .i64 t22__s22_l13) (.pointer (some ⟨g17, (Int.toNat t22__s22_l13) * (eInt .i64).n, none⟩)) rfl rfl rfl rfl hr19 ?_
        refine x_load (xv := .pointer (some ⟨g17, (Int.toNat t22__s22_l13) * (eInt .i64).n, none⟩)) (.int .i64 x19) rfl rfl rfl (reads_cell0 tcell3 hc19 (fun _ h => by cases h)) ?_
        refine x_pure 3 [(41, .int .i64 x15), (42, .int .i64 (IntKind.i64.wrap (x19 + x15))), (43, .int .i64 (IntKind.i64.wrap ((IntKind.i64.wrap (x19 + x15)) - 1)))] _ _ _ (by kernel_rfl) ?_
        refine x_max (vs := [.int .i64 x17, .int .i64 (IntKind.i64.wrap ((IntKind.i64.wrap (x19 + x15)) - 1))]) (.int .i64 (if (IntKind.i64.wrap ((IntKind.i64.wrap (x19 + x15)) - 1)) > x17 then (IntKind.i64.wrap ((IntKind.i64.wrap (x19 + x15)) - 1)) else x17)) rfl rfl rfl (fun _ _ => rfl) ?_
        obtain ⟨x21, hx21, h⟩ := bind_some h
        obtain ⟨g21, cs21, ha, hr21, hc21, hR⟩ := own_index (Mo := []) tsl27 ho4 hx21
        have hg : g17 = g21 := by cases ha; rfl
        subst hg
        obtain rfl := hR
        refine x_indexAddr (xv := .slice (some ⟨g17, 0, none⟩) (d5_l13).length c4) (yv := .int .i64 x11) (.pointer (some ⟨g17, (Int.toNat x11) * (eInt .i64).n, none⟩)) rfl rfl rfl rfl hr21 ?_
        obtain ⟨w23, hr23, he23, ho23⟩ := own_store (y := if (IntKind.i64.wrap ((IntKind.i64.wrap (x19 + x15)) - 1)) > x17 then (IntKind.i64.wrap ((IntKind.i64.wrap (x19 + x15)) - 1)) else x17) 0 (.int .i64 (if (IntKind.i64.wrap ((IntKind.i64.wrap (x19 + x15)) - 1)) > x17 then (IntKind.i64.wrap ((IntKind.i64.wrap (x19 + x15)) - 1)) else x17)) tcell3 ho4 (mem_flat 1 rfl _ (List.mem_singleton.2 rfl)) hx21 rfl rfl (fun _ _ _ hR => set_int hR)
        refine x_store w23 (xv := .pointer (some ⟨g17, (Int.toNat x11) * (eInt .i64).n, none⟩)) (yv := .int .i64 (if (IntKind.i64.wrap ((IntKind.i64.wrap (x19 + x15)) - 1)) > x17 then (IntKind.i64.wrap ((IntKind.i64.wrap (x19 + x15)) - 1)) else x17)) rfl rfl rfl rfl hr23 ?_
        refine ⟨.inl rfl, ?_⟩
        have hst := Stp.ev' (ls := [[b2], blk (some ⟨g17, 0, none⟩), blk (some ⟨g11, 0, none⟩), M]) he23 (mem_flat 1 rfl)
        replace hb2 := he23.box hb2 (hms.apart 0 1 rfl rfl rfl _ (List.mem_singleton.2 rfl))
        replace hs_p0_0 := hs_p0_0.step hst
        replace hf7_1 := hf7_1.step hst he23 (hms.apart 2 1 rfl rfl rfl)
        replace hms := hms.ev he23
        replace hev := hev.then he23 (fun b hb => .inr (hfr.at 1 rfl b hb))
        replace ho4 := ho23
        have hsl : (Value.slice (some ⟨g17, 0, none⟩) (d5_l13).length c4) = (Value.slice (some ⟨g17, 0, none⟩) ((d5_l13.set (Int.toNat x11) (if (IntKind.i64.wrap ((IntKind.i64.wrap (x19 + x15)) - 1)) > x17 then (IntKind.i64.wrap ((IntKind.i64.wrap (x19 + x15)) - 1)) else x17))).length c4) := by first | (rw [List.length_set]; done) | simp only [List.length_set]
        try rw [hsl]
        clear hsl
        refine x_end rfl ?_
        refine k_block ?_
        refine k_then ?_
        refine c_norm [(1, .pointer (some ⟨b2, 0, none⟩)), (3, .slice (some ⟨g17, 0, none⟩) ((d5_l13.set (Int.toNat x11) (if (IntKind.i64.wrap ((IntKind.i64.wrap (x19 + x15)) - 1)) > x17 then (IntKind.i64.wrap ((IntKind.i64.wrap (x19 + x15)) - 1)) else x17))).length c4), (5, .int .i64 x11), (13, .slice (some ⟨g11, 0, none⟩) (x6).length c0_7), (14, .int .i64 ((x6).length : Int)), (15, .int .i64 t15__s15_l9), (21, .int .i64 ((p0_0).length : Int)), (22, .int .i64 t22__s22_l13)] ⟨rfl, rfl, rfl, rfl, rfl, rfl, rfl, rfl, trivial⟩ (fun J => ?_)
        refine c_plain ?_
        refine x_pure 2 [(46, .int .i64 (IntKind.i64.wrap (t22__s22_l13 + 1))), (22, .int .i64 (IntKind.i64.wrap (t22__s22_l13 + 1)))] _ _ _ (by kernel_rfl) ?_
        refine x_end rfl ?_
        have hx := some_inj h
        subst hx
        exact k_then ⟨(m13, (d5_l13.set (Int.toNat x11) (if (IntKind.i64.wrap ((IntKind.i64.wrap (x19 + x15)) - 1)) > x17 then (IntKind.i64.wrap ((IntKind.i64.wrap (x19 + x15)) - 1)) else x17)), IntKind.i64.wrap (t22__s22_l13 + 1), (some ⟨g17, 0, none⟩)), ⟨rfl, rfl, rfl, rfl, rfl, rfl, rfl, rfl, trivial⟩, ⟨hn13, hev, hms, hfr, hs_p0_0, hb2, ho4, hf7_1⟩, Nat.lt_succ_self _⟩
      replace h := ite_f hb h
      refine c_skip ?_
      refine k_block ?_
      refine k_then ?_
      refine c_plain ?_
      refine x_pure 2 [(46, .int .i64 (IntKind.i64.wrap (t22__s22_l13 + 1))), (22, .int .i64 (IntKind.i64.wrap (t22__s22_l13 + 1)))] _ _ _ (by kernel_rfl) ?_
      refine x_end rfl ?_
      have hx := some_inj h
      subst hx
      exact k_then ⟨(m13, d5_l13, IntKind.i64.wrap (t22__s22_l13 + 1), a5_l13), ⟨rfl, rfl, rfl, rfl, rfl, rfl, rfl, rfl, trivial⟩, ⟨hn13, hev, hms, hfr, hs_p0_0, hb2, ho4, hf7_1⟩, Nat.lt_succ_self _⟩
    replace h := ite_f hb h
    refine c_exit ?_
    refine k_then_exit ?_
    have hx := some_inj h
    subst hx
    have hy := some_inj hn13
    subst hy
    replace h := h13
    refine k_then_exit ?_
    refine k_block_in ?_
    refine k_block ?_
    refine k_then ?_
    refine c_norm [(1, .pointer (some ⟨b2, 0, none⟩)), (3, .slice a5_l13 (d5_l13).length c4), (13, .slice (some ⟨g11, 0, none⟩) (x6).length c0_7), (14, .int .i64 ((x6).length : Int)), (15, .int .i64 t15__s15_l9)] ⟨rfl, rfl, rfl, rfl, rfl, trivial⟩ (fun J => ?_)
    refine c_plain ?_
    refine x_pure 2 [(47, .int .i64 (IntKind.i64.wrap (t15__s15_l9 + 1))), (15, .int .i64 (IntKind.i64.wrap (t15__s15_l9 + 1)))] _ _ _ (by kernel_rfl) ?_
    refine x_end rfl ?_
    have hx := some_inj h
    subst hx
    exact k_then ⟨(m9, d5_l13, IntKind.i64.wrap (t15__s15_l9 + 1), a5_l13, (some ⟨g11, 0, none⟩)), ⟨rfl, rfl, rfl, rfl, rfl, trivial⟩, ⟨hn9, hev, hms, hfr, hs_p0_0, hb2, ho4, hf7_1⟩, Nat.lt_succ_self _⟩
  replace h := ite_f hb h
  refine c_exit ?_
  refine k_then_exit ?_
  have hx := some_inj h
  subst hx
  have hy := some_inj hn9
  subst hy
  replace h := h9
  refine k_then_exit ?_
  refine k_block_in ?_
  refine k_then ?_
  refine c_norm [(3, .slice a5_l9 (d5_l9).length c4)] ⟨rfl, trivial⟩ (fun J => ?_)
  refine c_seq (c_plain ?_)
  refine x_pure 2 [(48, .slice a5_l9 (d5_l9).length c4), (2, .slice a5_l9 (d5_l9).length c4)] _ _ _ (by kernel_rfl) ?_
  refine x_end rfl (k_then ?_)
  refine c_ret ?_
  refine r_ret (r_vals [.slice a5_l9 (d5_l9).length c4] ⟨rfl, trivial⟩ ?_)
  have hx := some_inj h
  subst hx
  have hmr : MS wl9 [blk a5_l9, M] := hms.pick [some 1, some 3] _ rfl
  have hsu : ∀ x ∈ fl [blk a5_l9, M], x ∈ fl [[b2], blk a5_l9, blk a8_l9, M] := pick_sub [some 1, some 3] _ rfl
  have hfe : FR w.heap.size [blk a5_l9] := hfr.pick [some 1] _ rfl
  exact ⟨a5_l9, c4, rfl, hev, hmr, hfe, ho4.sub hsu⟩
def job_Levels (p0_0 : List (Int × Int × Int × Int)) (p0_1 : Int) : Option ((List Int) × Int) :=
((job_Valid p0_0 p0_1).bind fun x4 =>
(if (x4 != 0) = true then
some ([], x4)
else
((job_levels p0_0 p0_1).bind fun x6 =>
some (x6, 0))))

theorem job_Levels_w (a_p0_0 : Option Addr) (c_p0_0 : Nat) (p0_0 : List (Int × Int × Int × Int)) (p0_1 : Int) (r : (List Int) × Int) (w : World) (M : List Nat) (hms : MS w [M]) (hs_p0_0 : SlR (eProd (eInt .i64) (eProd (eInt .i64) (eProd (eInt .i64) (eInt .i64)))) w (fl [M]) a_p0_0 c_p0_0 p0_0) (h : job_Levels p0_0 p0_1 = some r) : CallVC Try.prog 34 [.agg #[.slice a_p0_0 (p0_0).length c_p0_0, .int .i64 p0_1]] w fun v w' => ∃ (a0' : Option Addr), ∃ (c0' : Nat), v = .tuple #[.slice a0' (r.1).length c0', .int .i64 r.2] ∧ Ev [] w w' ∧ MS w' [blk a0', M] ∧ FR w.heap.size [blk a0'] ∧ OwnS (eInt .i64) 3 w' (fl [blk a0', M]) a0' c0' r.1 := by
  refine calls_vc hmx Try.func34 (by kernel_rfl) rfl (rs := [.tmp 2, .tmp 3]) rfl (by kernel_rfl) (args := [.agg #[.slice a_p0_0 (p0_0).length c_p0_0, .int .i64 p0_1]]) rfl ?_
  have hev : Ev [] w w := Ev.refl _ _
  have hfr : FR w.heap.size [] := FR.nil _
  refine c_seq (c_plain ?_)
  refine x_box (xv := .agg #[.slice a_p0_0 (p0_0).length c_p0_0, .int .i64 p0_1]) rfl rfl rfl (fun b2 w2 hq2 hb2 he2 hz2 => ?_)
  replace hb2 : w2.heap[b2]? = some (.cells #[.slice a_p0_0 (p0_0).length c_p0_0, .int .i64 p0_1] 24 (0, 0)) := hb2
  refine ⟨.inl rfl, ?_⟩
  have hst := Stp.box (ls := [M]) he2 hq2
  replace hs_p0_0 := hs_p0_0.step hst
  replace hms := hms.box he2 hq2 hb2
  replace hfr := hfr.box hev.size hq2
  replace hev := hev.ext he2
  refine x_pure 2 [(2, .slice none 0 0), (3, .int .i64 0)] _ _ _ (by kernel_rfl) ?_
  refine x_end rfl (k_then ?_)
  refine c_seq ?_
  refine c_seq (c_plain ?_)
  refine x_load (xv := .pointer (some ⟨b2, 0, none⟩)) (.agg #[.slice a_p0_0 (p0_0).length c_p0_0, .int .i64 p0_1]) rfl rfl rfl (reads_boxagg 0 [.slice a_p0_0 (p0_0).length c_p0_0, .int .i64 p0_1] tagg24 hb2 nn rfl) ?_
  obtain ⟨x4, hx, h⟩ := bind_some h
  have hpk : MS w2 ([] ++ [[b2], M]) := hms.pick [some 0, some 1] _ rfl
  have hsb0 : ∀ x ∈ fl ([] ++ [[b2], M]), x ∈ fl [[b2], M] := pick_sub [some 0, some 1] _ rfl
  have hsb : ∀ x ∈ fl ([] ++ [(fl [[b2], M])]), x ∈ fl [[b2], M] := fun x hx => hsb0 x (fl_unfold x hx)
  have hcall := job_Valid_w a_p0_0 c_p0_0 p0_0 p0_1 _ w2 (fl [[b2], M]) (MS.fold (P := []) hpk) (hs_p0_0.sub hsb) hx
  refine x_call 36 #[] #[] [.agg #[.slice a_p0_0 (p0_0).length c_p0_0, .int .i64 p0_1]] _ rfl rfl rfl rfl hcall ?_
  rintro v w5 ⟨rfl, he5⟩
  clear hcall hx
  refine ⟨.inl rfl, ?_⟩
  have hst := Stp.ext (ls := [[b2], M]) he5
  replace hs_p0_0 := hs_p0_0.step hst
  replace hb2 := he5.box hb2 nn
  replace hms := hms.ev he5
  replace hev := hev.ext he5
  clear hpk hsb hsb0
  refine x_pure 1 [(4, .int .i64 x4)] _ _ _ (by kernel_rfl) ?_
  refine x_end rfl (k_then ?_)
  refine c_seq (c_plain ?_)
  refine x_pure 2 [(7, .int .i64 x4), (8, .bool (x4 != 0))] _ _ _ (by kernel_rfl) ?_
  refine x_end rfl (k_then ?_)
  refine c_cond (x4 != 0) rfl (fun hb => ?_) (fun hb => ?_)
  · replace h := ite_t hb h
    refine c_seq (c_plain ?_)
    refine x_pure 3 [(9, .int .i64 x4), (2, .slice none 0 0), (3, .int .i64 x4)] _ _ _ (by kernel_rfl) ?_
    refine x_end rfl (k_then ?_)
    refine c_ret ?_
    refine k_then_ret ?_
    refine r_ret (r_vals [.slice none 0 0, .int .i64 x4] ⟨rfl, rfl, trivial⟩ ?_)
    have hx := some_inj h
    subst hx
    have hmr : MS w5 [blk none, M] := hms.pick [none, some 1] _ rfl
    have hsu : ∀ x ∈ fl [blk none, M], x ∈ fl [[b2], M] := pick_sub [none, some 1] _ rfl
    have hfe : FR w.heap.size [blk none] := hfr.pick [none] _ rfl
    exact ⟨none, 0, rfl, hev, hmr, hfe, OwnS.nil _ _ _ _⟩
  replace h := ite_f hb h
  refine c_skip ?_
  refine k_then ?_
  refine c_seq (c_plain ?_)
  refine x_load (xv := .pointer (some ⟨b2, 0, none⟩)) (.agg #[.slice a_p0_0 (p0_0).length c_p0_0, .int .i64 p0_1]) rfl rfl rfl (reads_boxagg 0 [.slice a_p0_0 (p0_0).length c_p0_0, .int .i64 p0_1] tagg24 hb2 nn rfl) ?_
  obtain ⟨x6, hx, h⟩ := bind_some h
  have hpk : MS w5 ([] ++ [[b2], M]) := hms.pick [some 0, some 1] _ rfl
  have hsb0 : ∀ x ∈ fl ([] ++ [[b2], M]), x ∈ fl [[b2], M] := pick_sub [some 0, some 1] _ rfl
  have hsb : ∀ x ∈ fl ([] ++ [(fl [[b2], M])]), x ∈ fl [[b2], M] := fun x hx => hsb0 x (fl_unfold x hx)
  have hcall := job_levels_w a_p0_0 c_p0_0 p0_0 p0_1 _ w5 (fl [[b2], M]) (MS.fold (P := []) hpk) (hs_p0_0.sub hsb) hx
  refine x_call 54 #[] #[] [.agg #[.slice a_p0_0 (p0_0).length c_p0_0, .int .i64 p0_1]] _ rfl rfl rfl rfl hcall ?_
  rintro v w7 ⟨a0_7, c0_7, rfl, he7, hmn7, hfn7, hf7_1⟩
  clear hcall hx
  refine ⟨.inl rfl, ?_⟩
  have hpk2 : MS w5 ([] ++ [[b2], M]) := hms.pick [some 0, some 1] _ rfl
  have hsb2 : ∀ x ∈ fl ([] ++ [[b2], M]), x ∈ fl [[b2], M] := pick_sub [some 0, some 1] _ rfl
  have hst0 := Stp.call (LS := [[b2], M]) (res := [blk a0_7]) (par := []) (R := [[b2], M]) he7 (fun b hb => hsb2 b (fl_left' (P := []) b hb)) hfn7 (NP.init _ _) (fun x hx => hsb2 x (fl_right' (P := []) x hx))
  have hsn : ∀ x ∈ fl [blk a0_7, [b2], M], x ∈ fl ([blk a0_7] ++ ([] ++ [[b2], M])) := pick_sub [some 0, some 1, some 2] _ rfl
  have hst := hst0.res hsn
  replace hs_p0_0 := hs_p0_0.step hst
  replace hb2 := he7.box hb2 ((MS.outs (P := []) hpk2 0 rfl) _ (List.mem_singleton.2 rfl))
  replace hms : MS w7 [blk a0_7, [b2], M] := (MS.call (P := []) (R := [[b2], M]) (res := [blk a0_7]) (par := []) hpk2 he7 hmn7 hfn7 (NP.init _ _)).pick [some 0, some 1, some 2] _ rfl
  have hfr2 : FR w.heap.size [blk a0_7, [b2]] := (FR.cons (fun b hb => Nat.le_trans hev.size (hfn7.at 0 rfl b hb)) (FR.cons (hfr.at 0 rfl) (FR.nil _)))
  replace hev := hev.ext he7
  replace hfr := hfr2
  clear hfr2
  replace hf7_1 := OwnS.plain (M' := fl [blk a0_7, [b2], M]) (plain_int _) hf7_1
  clear hpk hsb hsb0 hpk2 hsb2 hst0 hsn hst
  refine x_pure 2 [(2, .slice a0_7 (x6).length c0_7), (3, .int .i64 0)] _ _ _ (by kernel_rfl) ?_
  refine x_end rfl (k_then ?_)
  refine c_ret ?_
  refine r_ret (r_vals [.slice a0_7 (x6).length c0_7, .int .i64 0] ⟨rfl, rfl, trivial⟩ ?_)
  have hx := some_inj h
  subst hx
  have hmr : MS w7 [blk a0_7, M] := hms.pick [some 0, some 2] _ rfl
  have hsu : ∀ x ∈ fl [blk a0_7, M], x ∈ fl [blk a0_7, [b2], M] := pick_sub [some 0, some 2] _ rfl
  have hfe : FR w.heap.size [blk a0_7] := hfr.pick [some 0] _ rfl
  exact ⟨a0_7, c0_7, rfl, hev, hmr, hfe, hf7_1.sub hsu⟩
end Go.Proofs.Ytgdaanhiagoonaa
